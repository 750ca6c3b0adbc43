/- Part j of the lemmas of TopBatch: contracts of functions of the program, and plain laws of numbers, bytes and memory. -/
import Derived.Test.YtjdiilkljgljkaaGreatDoorMi
import Derived.Test.YtjdiilkljgljkaaGreatDoorMc
import Derived.RangeFuncNested
import Derived.RangeFuncBound
import Derived.RangeFuncCalls
import Derived.RangeFuncLeaves
import Derived.Shelf.Abstract
import Derived.Shelf.RegionOpen
import Derived.WalkKit
import Derived.OwnWalkIn
import Derived.TacticsInMore
import Derived.LoopNIn
import Derived.LoopIn
import Derived.Test.YtjdiilkljgljkaaGreatDoorMb
import Derived.Test.YtjdiilkljgljkaaGreatDoorMf
import Derived.Test.YtjdiilkljgljkaaGreatDoorMg
import Derived.Deep.RegionHeld3
import Derived.Test.YtjdiilkljgljkaaGreatDoorMe
import Derived.Test.YtjdiilkljgljkaaGreatDoorMa
set_option maxHeartbeats 4000000
namespace Go.Proofs.YtjdiilkljgljkaaGreatDoor
set_option linter.unusedVariables false
set_option linter.unusedSimpArgs false
open Go.RowKit Wd Go.Shelf
attribute [local go_sem] Oper.semAt_some
def prs (s b : Nat) : Nat → List (Nat × Nat)
 | 0 => []
 | i + 1 => prs s b i ++ (if bit b i = true then [] else if bit s i = false then [(i, i + 2 ^ b)] else [(i + 2 ^ b, i)])
def rnd (K s : Nat) : Nat → List (Nat × Nat)
 | 0 => []
 | c + 1 => rnd K s c ++ prs s (s - 1 - c) (2 ^ K)
def stg (K : Nat) : Nat → List (Nat × Nat)
 | 0 => []
 | k + 1 => stg K k ++ rnd K (k + 1) (k + 1)
theorem ZdP (s b : Nat) : ∀ m, (prs s b m).length ≤ m
 | 0 => Nat.le_refl _
 | i + 1 => by
  have := ZdP s b i
  rw [prs, List.length_append]
  split
  ·simp; omega
  ·split <;> simp <;> omega
theorem ZdQ (K s : Nat) : ∀ c, (rnd K s c).length ≤ c * 2 ^ K
 | 0 => by simp [rnd]
 | c + 1 => by
  have h1 := ZdQ K s c; have h2 := ZdP s (s - 1 - c) (2 ^ K)
  rw [rnd, List.length_append, Nat.add_mul]; omega
theorem Zgl (K : Nat) : ∀ k, k ≤ K → (stg K k).length ≤ k * (K * 2 ^ K)
 | 0, _ => by simp [stg]
 | k + 1, h => by
  have h1 := Zgl K k (by omega)
  have h2 := ZdQ K (k + 1) (k + 1)
  have h3 : (k + 1) * 2 ^ K ≤ K * 2 ^ K := Nat.mul_le_mul_right _ h
  rw [stg, List.length_append, Nat.add_mul]; omega
theorem ZiZ {K s c b i : Nat} (hK : K ≤ 7) (hs : s + 1 ≤ K) (hc : c ≤ s) (hi : i < 2 ^ K) : (stg K s ++ rnd K (s + 1) c ++ prs (s + 1) b i).length < 1000000 := by
 have h1 := Zgl K s (by omega)
 have h2 := ZdQ K (s + 1) c
 have h3 := ZdP (s + 1) b i
 have hp : 2 ^ K ≤ 2 ^ 7 := Nat.pow_le_pow_right (by decide) hK
 have hp' : 2 ^ K ≤ 128 := hp
 have h4 : s * (K * 2 ^ K) ≤ 7 * (7 * 128) := Nat.mul_le_mul (by omega) (Nat.mul_le_mul hK hp')
 have h5 : c * 2 ^ K ≤ 7 * 128 := Nat.mul_le_mul (by omega) hp'
 rw [List.length_append, List.length_append]; omega
theorem Zj0 : ∀ (b : Fin 7) (i : Fin 128), bits .xor .i64 ((i.val : Nat) : Int) (((2 ^ b.val : Nat)) : Int) = (((if bit b.val i.val = true then i.val - 2 ^ b.val else i.val + 2 ^ b.val) : Nat) : Int) := by decide +kernel
theorem Zj1 : ∀ (s : Fin 8) (i : Fin 128), bits .and .i64 ((i.val : Nat) : Int) (((2 ^ s.val : Nat)) : Int) = (((if bit s.val i.val = true then 2 ^ s.val else 0) : Nat) : Int) := by decide +kernel
def cmpV (x : Nat × Nat) : Value := .agg #[.int .i64 (x.1 : Int), .int .i64 (x.2 : Int)]
theorem Zj2 : ∀ (K : Fin 8), bits .and .i64 (((2 ^ K.val : Nat)) : Int) (((2 ^ K.val - 1 : Nat)) : Int) = 0 := by decide +kernel
theorem ZgO (K z : Nat) (hK : K ≤ 7) (hz : z = 2 ^ K) (w : World) :
  Calls Tryz.prog 156 #[.int .i64 (z : Int)] w fun e w' => e = .returned (.bool true) ∧ w = w' := by
 have hp : 2 ^ K ≤ 2 ^ 7 := Nat.pow_le_pow_right (by decide) hK
 have hp' : z ≤ 128 := by rw [hz]; exact hp
 have hq : 1 ≤ z := by rw [hz]; exact Nat.two_pow_pos K
 have e1 : IntKind.i64.wrap ((z : Int) - 1) = ((z - 1 : Nat) : Int) := by rw [IntKind.wrap_i64]; omega
 have e2 : bits .and .i64 (z : Int) ((z - 1 : Nat) : Int) = 0 := by rw [hz]; exact Zj2 ⟨K, by omega⟩
 have q1 : (1 : Int) ≤ z := by omega
 have q2 : (z : Int) ≤ 4096 := by omega
 clear hz hp
 go_enter Tryz.func156, Tryz.ntmps156
 go_wp2_with fail
 go_ret
 exact ⟨rfl, rfl⟩
theorem ZfZ (z : Int) (w : World) : Calls Tryz.prog 140 #[.int .i64 z] w fun e w' => e = .returned (.func (.func 155) #[] #[.pointer (some ⟨w.heap.size, 0, none⟩)]) ∧ w' = w.alloc (.cells #[.int .i64 z] 3) := by
 go_enter Tryz.func140, Tryz.ntmps140
 go_wp2
 go_ret
 exact ⟨rfl, rfl⟩
attribute [local go_sem] Oper.semAt_some
def KpN (Bv : Nat) (W W' : World) : Prop := W'.heap[Bv]? = W.heap[Bv]?
theorem KpN.trans {Bv : Nat} {X Y Z : World} (h : KpN Bv X Y) (k : KpN Bv Y Z) : KpN Bv X Z := Eq.trans k h
theorem Ziv (j : Nat) : (j : Int).tdiv 2 = ((j / 2 : Nat) : Int) := by rw [Int.tdiv_eq_ediv_of_nonneg (by omega)]; omega
theorem Zho {n : Nat} (h : n ≤ 100000) : wrap64 (n : Int) = (n : Int) ∧ IntKind.i64.wrap (n : Int) = (n : Int) := by
 have e : IntKind.i64.wrap (n : Int) = (n : Int) := by rw [IntKind.wrap_i64]; omega
 exact ⟨by rw [← IntWalk.i64_left]; exact e, e⟩
theorem Zk4 {n : Nat} (h : n ≤ 100000) : wrap64 ((n : Int) * 2) = ((2 * n : Nat) : Int) ∧ IntKind.i64.wrap ((n : Int) * 2) = ((2 * n : Nat) : Int) := by
 have e : IntKind.i64.wrap ((n : Int) * 2) = ((2 * n : Nat) : Int) := by rw [IntKind.wrap_i64]; omega
 exact ⟨by rw [← IntWalk.i64_left]; exact e, e⟩
theorem Zk5 {j : Nat} (h : 0 < j) : (intOf (.int .i64 ((j / 2 : Nat) : Int))).toNat < (intOf (.int .i64 (j : Int))).toNat := by simp [intOf]; omega
theorem Zk6 {k z : Nat} (h : k ≤ z) (h0 : 0 < k) : 2 * z + 1 - (intOf (.int .i64 ((2 * k : Nat) : Int))).toNat < 2 * z + 1 - (intOf (.int .i64 (k : Int))).toNat := by simp [intOf]; omega
theorem Ziw {k z : Nat} (h : k < z) : z - (intOf (.int .i64 ((k : Int) + 1))).toNat < z - (intOf (.int .i64 (k : Int))).toNat := by simp [intOf]; omega
set_option maxRecDepth 100000 in
set_option maxHeartbeats 8000000 in
theorem Zj3 (m l Bv K z : Nat) (hm : 1 ≤ m) (hK : K ≤ 7) (hz : 2 ^ K = z) (J Jx : List (Nat × Nat) → World → Prop) (hJ : ∀ s W W', J s W → W.grownBy W' none → J s W')
  (hY : ∀ pre (x : Nat × Nat) W, (x.1 < z ∧ x.2 < z ∧ x.1 ≠ x.2) → J pre W → pre.length < 1000000 → YieldAt Fence.wide (m - 1) Tryz.prog l #[cmpV x] W fun e W' => (e = .returned (.bool true) ∧ J (pre ++ [x]) W' ∧ KpN Bv W W') ∨ (e = .returned (.bool false) ∧ Jx (pre ++ [x]) W'))
  (W : World) (hB : Bx W Bv #[.int .i64 (z : Int)] 3) (h0 : J [] W) :
  CallsIn Fence.wide m Tryz.prog 155 #[.func (.yield l) #[] #[], .pointer (some ⟨Bv, 0, none⟩)] W fun e W' => (∃ v, e = .returned v) ∧ (J (stg K K) W' ∨ ∃ pre, Jx pre W') := by
 have HZ := η hz
 have hz7 : z ≤ 128 := by rw [← hz]; exact Nat.pow_le_pow_right (n := 2) (by decide) hK
 have HBX := η hB
 have bc := hB.cell 0 (v := .int .i64 (z : Int)) rfl
 have HM := η hm
 clear hB hz
 refine callsIn_of_wp Tryz.func155 rfl trivial ?_ rfl
 simp only [Tryz.ntmps155, List.size_toArray, List.length_cons, List.length_nil, Nat.reduceAdd, Nat.reduceSub, Array.replicate_succ, Array.replicate_zero, List.push_toArray, List.append_toArray, List.nil_append, List.cons_append]
 refine ZaD ?_
 gi_wp2_with fail
 try refine ⟨trivial, ?_⟩
 refine CallsIn.mono (n := _) (callsIn_wide.2 (ZgO K z hK HZ.out.symm _)) ?_
 rintro e w2 ⟨rfl, rfl⟩
 gi_wp2_with fail
 clear bc
 refine wpIn_label ?_
 gi_wp2_with fail
 gi_loopw [3] (fun iv wr => ∃ s kv : Nat, s ≤ K ∧ kv = 2 ^ (s + 1) ∧ iv = .int .i64 (kv : Int) ∧ J (stg K s) wr ∧ KpN Bv W wr) (fun i _ => 2 * z + 1 - (intOf i).toNat)
 case atStart => exact ⟨0, 2, Nat.zero_le _, rfl, rfl, h0, rfl⟩
 case round =>
  obtain ⟨s, kv, hs, hkv, rfl, hJs, hkp⟩ := hrel
  have FB := η (show Bx wr Bv #[.int .i64 (z : Int)] 3 from (show wr.heap[Bv]? = W.heap[Bv]? from hkp).trans HBX.out)
  have bc := FB.out.cell 0 (v := .int .i64 (z : Int)) rfl
  have HKV := η hkv
  by_cases hlt : kv ≤ z
  ·have hsK : s + 1 ≤ K := by
    rcases Nat.lt_or_ge K (s + 1) with h | h
    ·have h1 : 2 ^ (K + 1) ≤ 2 ^ (s + 1) := Nat.pow_le_pow_right (by decide) h
     have h2 := Nat.two_pow_pos K
     rw [Nat.pow_succ, HZ.out, ← hkv] at h1
     rw [HZ.out] at h2; omega
    ·exact h
   have hj2 : kv = 2 * 2 ^ s := by rw [hkv, Nat.pow_succ, Nat.mul_comm]
   have hd : (kv : Int).tdiv 2 = ((2 ^ s : Nat) : Int) := by rw [Ziv, hj2, Nat.mul_div_cancel_left _ (by decide)]
   obtain ⟨jv, hjv⟩ : ∃ jv, jv = 2 ^ s := ⟨_, rfl⟩
   rw [← hjv] at hd hj2
   obtain ⟨hw1, hw2⟩ := Zho (n := jv) (by omega)
   have HW := η (Zk4 (n := kv) (by omega))
   have q1 : (kv : Int) ≤ (z : Int) := by omega
   have HJV := η hjv; have HKP := η hkp; have HJ2 := η hj2
   clear hjv hkp hkv hj2
   gi_wp2_with fail
   clear bc q1 hw1 hw2 hd
   gi_loopw [4] (fun jr wq => ∃ c jv : Nat, c ≤ s + 1 ∧ (c = s + 1 → jv = 0) ∧ (c ≤ s → jv = 2 ^ (s - c)) ∧ jr = .int .i64 (jv : Int) ∧ J (stg K s ++ rnd K (s + 1) c) wq ∧ KpN Bv W wq) (fun j _ => (intOf j).toNat)
   case atStart => exact ⟨0, jv, Nat.zero_le _, fun h => absurd h (by omega), fun _ => by rw [HJV.out]; rfl, rfl, by rw [rnd, List.append_nil]; exact hJs, HKP.out⟩
   case round =>
    clear hJs HKP HJV HJ2
    obtain ⟨c, jw, hc, hj0, hj1, rfl, hJs, hkp⟩ := hrel
    have FB := η (show Bx wr Bv #[.int .i64 (z : Int)] 3 from (show wr.heap[Bv]? = W.heap[Bv]? from hkp).trans HBX.out)
    by_cases hcs : c ≤ s
    ·have hjv := hj1 hcs
     obtain ⟨b, hb⟩ : ∃ b, b = s - c := ⟨_, rfl⟩
     rw [← hb] at hjv
     have hpj : 0 < jw := by rw [hjv]; exact Nat.two_pow_pos b
     have hjz : jw ≤ 128 := by
      have : 2 ^ b ≤ 2 ^ 7 := Nat.pow_le_pow_right (by decide) (by omega)
      rw [hjv]; exact this
     have q2 : (0 : Int) < (jw : Int) := by omega
     have bc := FB.out.cell 0 (v := .int .i64 (z : Int)) rfl
     have HJV := η hjv; have HKP := η hkp; have HBB := η hb
     have hd := Ziv jw
     obtain ⟨hw1, hw2⟩ := Zho (n := jw / 2) (by omega)
     have HJ0 := η hj0; have HJ1 := η hj1
     clear hjv hkp hb hj0 hj1
     gi_wp2_with fail
     have HD := η hd; have HW1 := η hw1; have HW2 := η hw2
     clear bc hd hw1 hw2 q2
     gi_loopw [22] (fun iv wi => ∃ i : Nat, i ≤ z ∧ iv = .int .i64 (i : Int) ∧ J (stg K s ++ rnd K (s + 1) c ++ prs (s + 1) b i) wi ∧ KpN Bv W wi) (fun i _ => z - (intOf i).toNat)
     case atStart => exact ⟨0, Nat.zero_le _, rfl, by rw [prs, List.append_nil]; exact hJs, HKP.out⟩
     case round =>
      clear hJs HKP
      obtain ⟨i, hi, rfl, hJi, hkp⟩ := hrel
      have FB := η (show Bx wr Bv #[.int .i64 (z : Int)] 3 from (show wr.heap[Bv]? = W.heap[Bv]? from hkp).trans HBX.out)
      by_cases hil : i < z
      ·have q3 : (i : Int) < (z : Int) := by omega
       have hms := η (Ziw hil)
       have HLEN := η (ZiZ (b := b) hK hsK hcs (show i < 2 ^ K from by rw [HZ.out]; exact hil))
       have hx := Zj0 ⟨b, by have := HBB.out; omega⟩ ⟨i, by omega⟩
       have ha := Zj1 ⟨s + 1, by omega⟩ ⟨i, by omega⟩
       simp only [← HJV.out, ← HKV.out] at hx ha
       have HKPI := η hkp; clear hkp
       have KPA : ∀ o, KpN Bv W (wr.alloc o) := fun o => HKPI.out.trans (Below.heap_alloc _ _ _ FB.out.lt)
       have KPA := η KPA
       cases hbit : bit b i
       ·obtain ⟨hv, hhv⟩ : ∃ hv, hv = i + jw := ⟨_, rfl⟩
        have hx' : bits .xor .i64 (i : Int) (jw : Int) = (hv : Int) := by rw [hx, hbit, if_neg (by simp), hhv]
        have q4 : ¬ ((hv : Int) < (i : Int)) := by omega
        have HVZ := η (show hv < z from by
         have h1 := Zfl (b := b) (K := K) (p := i) (by have := HBB.out; omega) (by rw [HZ.out]; exact hil) hbit
         rw [HZ.out, ← HJV.out] at h1; omega)
        have HHV := η hhv; have HBI := η hbit
        clear hx hhv hbit
        cases hsb : bit (s + 1) i
        ·have ha' : bits .and .i64 (i : Int) (kv : Int) = 0 := by rw [ha, hsb, if_neg (by simp)]; rfl
         have HPR := η (show prs (s + 1) b (i + 1) = prs (s + 1) b i ++ [(i, hv)] from by rw [prs, if_neg (by rw [HBI.out]; simp), if_pos hsb, HHV.out, HJV.out])
         clear ha hsb
         obtain ⟨fn, tmps, assign, body, hy, hR⟩ := hY _ (i, hv) (wr.alloc (.cells #[.int .i64 (i : Int), .int .i64 (hv : Int)] 207)) ⟨hil, HVZ.out, by have := HHV.out; show i ≠ hv; omega⟩ (hJ _ _ _ hJi (World.grownBy_alloc _ _ none)) HLEN.out
         rw [show cmpV (i, hv) = .agg #[.int .i64 (i : Int), .int .i64 (hv : Int)] from rfl] at hy
         have bc := FB.out.cell 0 (v := .int .i64 (z : Int)) rfl
         gi_wp2
         refine hR.mono ?_
         rintro e W3 (⟨rfl, hJ3, hk3⟩ | ⟨rfl, hJx3⟩)
         ·gi_wp2
          go_roundw
          case rel => exact ⟨i + 1, by omega, by simp, by rw [HPR.out, ← List.append_assoc]; exact hJ3, (KPA.out _).trans hk3⟩
          case measure => exact hms.out
         ·gi_wp2
          simp only [Exit.noGoto]
          go_end0
          exact ⟨⟨_, rfl⟩, .inr ⟨_, hJx3⟩⟩
        ·have ha' : bits .and .i64 (i : Int) (kv : Int) = (kv : Int) := by rw [ha, hsb, if_pos rfl]
         have q5 : ¬ ((kv : Int) = 0) := by have := HKV.out; have := Nat.two_pow_pos (s + 1); omega
         have HPR := η (show prs (s + 1) b (i + 1) = prs (s + 1) b i ++ [(hv, i)] from by rw [prs, if_neg (by rw [HBI.out]; simp), if_neg (by rw [hsb]; simp), HHV.out, HJV.out])
         clear ha hsb
         obtain ⟨fn, tmps, assign, body, hy, hR⟩ := hY _ (hv, i) (wr.alloc (.cells #[.int .i64 (hv : Int), .int .i64 (i : Int)] 207)) ⟨HVZ.out, hil, by have := HHV.out; show hv ≠ i; omega⟩ (hJ _ _ _ hJi (World.grownBy_alloc _ _ none)) HLEN.out
         rw [show cmpV (hv, i) = .agg #[.int .i64 (hv : Int), .int .i64 (i : Int)] from rfl] at hy
         have bc := FB.out.cell 0 (v := .int .i64 (z : Int)) rfl
         gi_wp2
         refine hR.mono ?_
         rintro e W3 (⟨rfl, hJ3, hk3⟩ | ⟨rfl, hJx3⟩)
         ·gi_wp2
          go_roundw
          case rel => exact ⟨i + 1, by omega, by simp, by rw [HPR.out, ← List.append_assoc]; exact hJ3, (KPA.out _).trans hk3⟩
          case measure => exact hms.out
         ·gi_wp2
          simp only [Exit.noGoto]
          go_end0
          exact ⟨⟨_, rfl⟩, .inr ⟨_, hJx3⟩⟩
       ·obtain ⟨hv, hhv⟩ : ∃ hv, hv = i - jw := ⟨_, rfl⟩
        have hx' : bits .xor .i64 (i : Int) (jw : Int) = (hv : Int) := by rw [hx, hbit, if_pos rfl, hhv]
        have hge := Zfk hbit
        rw [← HJV.out] at hge
        have q4 : (hv : Int) < (i : Int) := by omega
        have HPR := η (show prs (s + 1) b (i + 1) = prs (s + 1) b i from by rw [prs, if_pos hbit, List.append_nil])
        have bc := FB.out.cell 0 (v := .int .i64 (z : Int)) rfl
        clear hx hhv hbit ha hge
        gi_wp2
        go_roundw
        case rel => exact ⟨i + 1, by omega, by simp, by rw [HPR.out]; exact hJ _ _ _ hJi (World.grownBy_alloc _ _ none), KPA.out _⟩
        case measure => exact hms.out
      ·obtain rfl : i = z := by omega
       have bc := FB.out.cell 0 (v := .int .i64 (i : Int)) rfl
       have hd := HD.out; have hw1 := HW1.out; have hw2 := HW2.out
       gi_wp2
       go_roundw
       case rel =>
        refine ⟨c + 1, jw / 2, by omega, fun h => ?_, fun h => ?_, rfl, ?_, hkp⟩
        ·have hb0 : b = 0 := by have := HBB.out; omega
         rw [HJV.out, hb0]
        ·rw [HJV.out, HBB.out, show s - c = (s - (c + 1)) + 1 by omega, Nat.pow_succ, Nat.mul_div_cancel _ (by decide)]
        ·rw [rnd, show s + 1 - 1 - c = b from by have := HBB.out; omega, HZ.out, ← List.append_assoc]; exact hJi
       case measure => exact Zk5 hpj
    ·obtain rfl : c = s + 1 := by omega
     have hjv := hj0 rfl
     subst hjv
     clear hj0 hj1
     obtain ⟨hw3, hw4⟩ := HW.out
     gi_wp2_with fail
     go_roundw
     case rel => exact ⟨s + 1, 2 * kv, by omega, by rw [HKV.out, Nat.pow_succ 2 (s + 1), Nat.mul_comm], rfl, by rw [stg]; exact hJs, hkp⟩
     case measure => exact Zk6 hlt (by rw [HKV.out]; exact Nat.two_pow_pos _)
  ·have hsK : s = K := by
    rcases Nat.lt_or_ge s K with h | h
    ·have h1 : 2 ^ (s + 1) ≤ 2 ^ K := Nat.pow_le_pow_right (by decide) h
     rw [HZ.out, ← hkv] at h1; omega
    ·omega
   have q1 : ¬ ((kv : Int) ≤ (z : Int)) := by omega
   clear hkv
   gi_wp2_with fail
   go_end0
   exact ⟨⟨_, rfl⟩, .inl (hsK ▸ hJs)⟩
def Cm (z : Nat) : Type := {x : Nat × Nat // x.1 < z ∧ x.2 < z ∧ x.1 ≠ x.2}
theorem Zhp (m Bv K z : Nat) (hm : 1 ≤ m) (hK : K ≤ 7) (hz : 2 ^ K = z) (w : World) (hB : Bx w Bv #[.int .i64 (z : Int)] 3) :
  SeqStopsK Fence.wide m Tryz.prog 155 #[.pointer (some ⟨Bv, 0, none⟩)] (fun x : Cm z => #[cmpV x.val]) (KpN Bv) (fun xs => xs.map (·.val) = stg K K) (fun _ => True) 1000000 w := fun l J Jx W hW hJ _ hY h0 => by
 refine (Zj3 m l Bv K z hm hK hz (fun s W => ∃ la : List (Cm z), la.map (·.val) = s ∧ J la W) (fun s W => ∃ la : List (Cm z), la.map (·.val) = s ∧ Jx la W) (fun s W W' ⟨la, e, h⟩ hg => ⟨la, e, hJ la W _ none h hg (by simp)⟩) (fun pre x W1 hx ⟨la, e, hj⟩ hlen => ?_) W (hB.below hW ν) ⟨[], rfl, h0⟩).mono ?_
 ·obtain ⟨fn, tmps, assign, body, hy, hR⟩ := hY la ⟨x, hx⟩ W1 hj (by rw [← List.length_map (f := fun y : Cm z => y.val), e]; exact hlen)
  refine ⟨fn, tmps, assign, body, hy, hR.mono ?_⟩
  rintro e' W' (⟨h1, h2, h3⟩ | ⟨h1, h2⟩)
  ·exact .inl ⟨h1, ⟨_, by rw [List.map_append, e]; rfl, h2⟩, h3⟩
  ·exact .inr ⟨h1, _, by rw [List.map_append, e]; rfl, h2⟩
 ·rintro e W' ⟨he, ⟨la, e1, hj⟩ | ⟨pre, la, e1, hj⟩⟩
  ·exact ⟨he, .inl ⟨la, e1, hj⟩⟩
  ·exact ⟨he, .inr ⟨la, trivial, hj⟩⟩
end Go.Proofs.YtjdiilkljgljkaaGreatDoor
namespace Go.Proofs.YtjdiilkljgljkaaGreatDoor
set_option linter.unusedVariables false
set_option linter.unusedSimpArgs false
def appN (F : Nat → Int) (l : List (Nat × Nat)) : Nat → Int := l.foldl (fun F p => exch F p.1 p.2) F
theorem ZbY (F : Nat → Int) (l k : List (Nat × Nat)) : appN F (l ++ k) = appN (appN F l) k := by unfold appN; rw [List.foldl_append]
theorem Zfp (F : Nat → Int) {s b : Nat} (hb : b < s) : ∀ m, appN F (prs s b m) = stp F s b m
 | 0 => by rw [Zfm]; rfl
 | i + 1 => by
  rw [prs, ZbY, Zfp F hb i]
  cases h : bit b i
  ·rw [if_neg (by simp), Zhm F hb h]
   split <;> rfl
  ·rw [if_pos rfl, Zfn F s b h]; rfl
def Agr (F G : Nat → Int) (n : Nat) : Prop := ∀ i, i < n → F i = G i
theorem Agr.exch {F G : Nat → Int} {n p q : Nat} (h : Agr F G n) (hp : p < n) (hq : q < n) (hne : p ≠ q) : Agr (exch F p q) (exch G p q) n := fun i hi => by
 rw [Zb6 F hne, Zb6 G hne, h p hp, h q hq, h i hi]
theorem Agr.app {n : Nat} : ∀ (l : List (Nat × Nat)) {F G : Nat → Int}, Agr F G n → (∀ x ∈ l, x.1 < n ∧ x.2 < n ∧ x.1 ≠ x.2) → Agr (appN F l) (appN G l) n
 | [], _, _, h, _ => h
 | x :: l, F, G, h, hl => Agr.app l (h.exch (hl x (by simp)).1 (hl x (by simp)).2.1 (hl x (by simp)).2.2) (fun y hy => hl y (by simp [hy]))
theorem Zhq {K s b : Nat} (hb : b < K) : ∀ m, m ≤ 2 ^ K → ∀ x ∈ prs s b m, x.1 < 2 ^ K ∧ x.2 < 2 ^ K ∧ x.1 ≠ x.2
 | 0, _, x, hx => by simp [prs] at hx
 | i + 1, hm, x, hx => by
  have hp := Nat.two_pow_pos b
  rw [prs, List.mem_append] at hx
  rcases hx with hx | hx
  ·exact Zhq hb i (by omega) x hx
  ·cases h : bit b i
   ·have := Zfl hb (by omega) h
    rw [h, if_neg (by simp)] at hx
    split at hx
    ·simp at hx; subst hx; exact ⟨by show i < _; omega, this, by show i ≠ _; omega⟩
    ·simp at hx; subst hx; exact ⟨this, by show i < _; omega, by show _ ≠ i; omega⟩
   ·rw [h, if_pos rfl] at hx; simp at hx
theorem Zhr {K s : Nat} (hs : s ≤ K) {F G : Nat → Int} (hF : Agr F G (2 ^ K)) (hI : Inv G s s) : ∀ c, c ≤ s → ∃ G', Agr (appN F (rnd K s c)) G' (2 ^ K) ∧ Inv G' s (s - c) ∧ ∀ t, cge G' t (2 ^ K) = cge G t (2 ^ K)
 | 0, _ => ⟨G, hF, hI, fun _ => rfl⟩
 | c + 1, hc => by
  obtain ⟨G', h1, h2, h3⟩ := Zhr hs hF hI c (by omega)
  have hb : s - 1 - c < s := by omega
  refine ⟨hcl G' s (s - 1 - c), fun i hi => ?_, ?_, fun t => ?_⟩
  ·rw [rnd, ZbY, Agr.app _ h1 (Zhq (K := K) (s := s) (b := s - 1 - c) (by omega) _ ν) i hi, Zfp G' hb, Zgh G' s _ hi]
  ·rw [show s - (c + 1) = s - 1 - c by omega]
   refine Inv.round ?_ hb
   rw [show s - 1 - c + 1 = s - c by omega]; exact h2
  ·rw [ZiW G' t hb (by omega), h3]
theorem Zhs {K : Nat} (F : Nat → Int) : ∀ k, k ≤ K → ∃ G, Agr (appN F (stg K k)) G (2 ^ K) ∧ Inv G k 0 ∧ ∀ t, cge G t (2 ^ K) = cge F t (2 ^ K)
 | 0, _ => ⟨F, fun _ _ => rfl, Inv.zero F, fun _ => rfl⟩
 | k + 1, hk => by
  obtain ⟨G, h1, h2, h3⟩ := Zhs (K := K) F k (by omega)
  obtain ⟨G', k1, k2, k3⟩ := Zhr hk h1 h2.next (k + 1) ν
  rw [Nat.sub_self] at k2
  exact ⟨G', by rw [stg, ZbY]; exact k1, k2, fun t => by rw [k3, h3]⟩
theorem Zht {K : Nat} (F : Nat → Int) : SrtN (appN F (stg K K)) (2 ^ K) ∧ ∀ t, cge (appN F (stg K K)) t (2 ^ K) = cge F t (2 ^ K) := by
 obtain ⟨G, h1, h2, h3⟩ := Zhs (K := K) F K ν
 refine ⟨fun i j hij hj => ?_, fun t => by rw [JN h1, h3]⟩
 rw [h1 i (by omega), h1 j hj]; exact h2.sorted i j hij hj
end Go.Proofs.YtjdiilkljgljkaaGreatDoor
namespace Go.Proofs.YtjdiilkljgljkaaGreatDoor
set_option linter.unusedVariables false
set_option linter.unusedSimpArgs false
open Go.RowKit Wd
def IsK (k : Int) : Prop := 0 ≤ k ∧ k ≤ 18446744073709551616
def rl (k : Int) : Int := if k < 18446744073709551616 then 1 else 0
def ri (k : Int) : Int := if k < 18446744073709551616 then k else 0
theorem ZaO (k : Int) : rl k = 0 ∨ rl k = 1 := by unfold rl; split <;> simp
theorem Zbf (k : Int) : IsW (rl k) := by have := ZaO k; unfold IsW; omega
theorem Zbg {k : Int} (h : IsK k) : IsW (ri k) := by unfold ri IsW; unfold IsK at h; split <;> omega
def keyQ (b : Bool) (d : Int) : Int := if b then d else 18446744073709551616
theorem Zfq {b : Bool} {d : Int} (h : IsW d) : IsK (keyQ b d) := by unfold keyQ IsK; unfold IsW at h; split <;> omega
theorem Zgm {b : Bool} {d : Int} (h : IsW d) : rl (keyQ b d) = if b then 1 else 0 := by
 unfold rl keyQ; unfold IsW at h; cases b
 ·rfl
 ·simp; omega
theorem Zgn {b : Bool} {d : Int} (h : IsW d) : ri (keyQ b d) = if b then d else 0 := by
 unfold ri keyQ; unfold IsW at h; cases b
 ·rfl
 ·simp; omega
structure Rcs (w : World) (A : Option Addr) (n c : Nat) (h : Nat → Int) : Prop where
 cap : n ≤ c
 max : c ≤ maxLen
 isk : ∀ i, i < n → IsK (h i)
 at_ : 0 < n → ∃ b off, A = some ⟨b, off, none⟩ ∧ b < w.heap.size ∧ ∀ i, i < n → w.cell? ⟨b, off + i * 2, none⟩ = some (.int .u64 (rl (h i))) ∧ w.cell? ⟨b, off + i * 2 + 1, none⟩ = some (.int .u64 (ri (h i)))
theorem Rcs.below {w w' : World} {B : Nat} {A : Option Addr} {n c : Nat} {h : Nat → Int} (a : Rcs w A n c h) (hb : Below B w w') (hB : w.heap.size ≤ B) : Rcs w' A n c h :=
 ⟨a.cap, a.max, a.isk, fun hn => by
  obtain ⟨b, off, e, hlt, hc⟩ := a.at_ hn
  exact ⟨b, off, e, Nat.lt_of_lt_of_le hlt hb.size, fun i hi => ⟨(hb.cell (p := ⟨b, off + i * 2, none⟩) (by show b < B; omega)).trans (hc i hi).1, (hb.cell (p := ⟨b, off + i * 2 + 1, none⟩) (by show b < B; omega)).trans (hc i hi).2⟩⟩⟩
theorem Rcs.alloc {w : World} {A : Option Addr} {n c : Nat} {h : Nat → Int} (a : Rcs w A n c h) (o : Obj) : Rcs (w.alloc o) A n c h :=
 a.below ((Below.refl w.heap.size w).alloc ν o) ν
theorem Rcs.drew {w : World} {A : Option Addr} {n c : Nat} {h : Nat → Int} (a : Rcs w A n c h) : Rcs w.drew A n c h := a.below (Below.refl w.heap.size w).drew ν
theorem Rcs.congr {w : World} {A : Option Addr} {n c : Nat} {h k : Nat → Int} (a : Rcs w A n c h) (e : ∀ i, i < n → h i = k i) : Rcs w A n c k :=
 ⟨a.cap, a.max, fun i hi => by rw [← e i hi]; exact a.isk i hi, fun hn => by
  obtain ⟨b, off, e1, hlt, hc⟩ := a.at_ hn
  exact ⟨b, off, e1, hlt, fun i hi => by rw [← e i hi]; exact hc i hi⟩⟩
def reE (h : Nat → Int) (i j : Nat) : Value := if j = 0 then .int .u64 (rl (h i)) else .int .u64 (ri (h i))
theorem Zhu {w : World} {b n m c : Nat} {h : Nat → Int} {cur : Array Value} {t : TypeId} (hb : Bx w b cur t) (hc : RowE cur 2 m n (reE h)) (hn : n ≤ c) (hm : c ≤ maxLen) (hi : ∀ i, i < n → IsK (h i)) : Rcs w (some ⟨b, 0, none⟩) n c h :=
 ⟨hn, hm, hi, fun _ => ⟨b, 0, rfl, hb.lt, fun i hi' => by
  rw [Nat.zero_add]; exact ⟨hb.cell _ (hc.at_ i hi' 0 (by decide)), hb.cell _ (hc.at_ i hi' 1 (by decide))⟩⟩⟩
def recB (h : Nat → Int) : Nat → List Int
 | 0 => []
 | k + 1 => recB h k ++ rcB (rl (h k)) (ri (h k))
theorem Zd2 (h : Nat → Int) : ∀ k, (recB h k).length = 9 * k
 | 0 => rfl
 | k + 1 => by rw [recB, List.length_append, Zd2 h k, ZiD]; omega
theorem Zds {h k : Nat → Int} : ∀ n, (∀ i, i < n → h i = k i) → recB h n = recB k n
 | 0, _ => rfl
 | n + 1, e => by rw [recB, recB, Zds n (fun i hi => e i (by omega)), e n (by omega)]
theorem Zee (m : Bool) (a b : Int) (ha : IsW a) (hb : IsW b) (w : World) :
  Calls Tryz.prog 158 #[.int .u64 (msk m), .int .u64 a, .int .u64 b] w fun e w' => e = .returned (.tuple #[.int .u64 (selI m b a), .int .u64 (selI m a b)]) ∧ w = w' := by
 rw [← Zc6 m hb ha, Zgs hb ha, ← Zc6 m ha hb]
 clear ha hb
 go_enter Tryz.func158, Tryz.ntmps158
 go_wp2_with fail
 go_ret2
 exact ⟨rfl, rfl⟩
theorem Zef (a : Int) (ha : IsW a) (w : World) :
  Calls Tryz.prog 119 #[.int .u64 a] w fun e w' => e = .returned (.int .u64 (a % 2)) ∧ w = w' := by
 have h := Zat ha
 go_enter Tryz.func119, Tryz.ntmps119
 go_wp2_with fail
 go_ret
 exact ⟨rfl, rfl⟩
theorem Zi9 (m : Bool) {a : Int} (ha : IsW a) : bits .and .u64 a (msk m) = if m then a else 0 := by rw [Zgt ha (Zcr m), Wd.and_msk m ha]
set_option maxRecDepth 100000 in
theorem Zc3 (L d X Y : Int) (hL : IsW L) (hd : IsW d) (hX : L % 2 = X) (hY : (if L % 2 = 1 then d else 0) = Y) (w : World) :
  Calls Tryz.prog 137 #[.agg #[.int .u64 L, .int .u64 d]] w fun e w' => e = .returned (.agg #[.int .u64 X, .int .u64 Y]) ∧ Below w.heap.size w w' := by
 have e1 : bits .and .u64 d (msk (decide (L % 2 = 1))) = Y := by rw [Zi9 (decide (L % 2 = 1)) hd, ← hY]; by_cases h : L % 2 = 1 <;> simp [h]
 have HL := η hL; have HD := η hd; have HX' := η hX; clear hL hd hX hY
 go_enter Tryz.func137, Tryz.ntmps137
 go_wp2_with fail
 have HX := η (show Bx ((w.alloc (.cells #[.int .u64 L, .int .u64 d] 86)).alloc (.cells #[.int .u64 0, .int .u64 0] 86)) w.heap.size #[.int .u64 L, .int .u64 d] 86 from (Bx.new _ _ _).alloc _)
 have HR := η (show Bx ((w.alloc (.cells #[.int .u64 L, .int .u64 d] 86)).alloc (.cells #[.int .u64 0, .int .u64 0] 86)) (w.heap.size + 1) #[.int .u64 0, .int .u64 0] 86 from Jb (by simp))
 have HB := η (show Below w.heap.size w ((w.alloc (.cells #[.int .u64 L, .int .u64 d] 86)).alloc (.cells #[.int .u64 0, .int .u64 0] 86)) from J8 (J8 J0))
 generalize ((w.alloc (.cells #[.int .u64 L, .int .u64 d] 86)).alloc (.cells #[.int .u64 0, .int .u64 0] 86)) = w1 at *
 have QC := η (show w1.drew.cell? ⟨w.heap.size, 0, none⟩ = some (.int .u64 L) ∧ w1.drew.cell? ⟨w.heap.size, 1, none⟩ = some (.int .u64 d) from ⟨(Jf HX.out).cell 0 rfl, (Jf HX.out).cell 1 rfl⟩)
 refine wp_region_held_drew (S := fun w' => w'.cell? ⟨w.heap.size, 0, none⟩ = some (.int .u64 L) ∧ w'.cell? ⟨w.heap.size, 1, none⟩ = some (.int .u64 d)) (by kernel_rfl) (QC.out) (fun hHeld => ?_)
 refine tk 0 hHeld ?_
 refine tk 1 hHeld ?_
 refine tk 3 hHeld ?_
 refine tk 4 hHeld ?_
 refine tk 5 hHeld ?_
 refine tk 6 hHeld ?_
 refine cl 2 (fun K hK => ?_)
 go_simp
 refine (Zef L HL.out _).mono ?_
 rintro e w2 ⟨rfl, rfl⟩
 rw [HX'.out]
 go_wp2_with fail
 refine hK.out _ _ (QC.out) (fun hHeld2 => ?_)
 clear hK K hHeld; have hHeld := hHeld2; clear hHeld2
 try simp only [Act.put, List.setIfInBounds_toArray, List.set_cons_zero, List.set_cons_succ]
 refine cl 7 (fun K hK => ?_)
 go_simp
 refine (ZaJ L HL.out _).mono ?_
 rintro e w3 ⟨rfl, rfl⟩
 go_wp2_with fail
 refine hK.out _ _ (QC.out) (fun hHeld2 => ?_)
 clear hK K hHeld; have hHeld := hHeld2; clear hHeld2
 try simp only [Act.put, List.setIfInBounds_toArray, List.set_cons_zero, List.set_cons_succ]
 refine tk 8 hHeld ?_
 refine tk 9 hHeld ?_
 refine cl 10 (fun K hK => ?_)
 have c0 := HR.out.cell 0 (v := .int .u64 0) rfl; have c1 := HR.out.cell 1 (v := .int .u64 0) rfl; have z0 := HR.out.free 0; have z1 := HR.out.free 1; go_simp; clear c0 c1 z0 z1
 skip
 skip
 refine hK.out _ _ ((show _ ∧ _ from ⟨(Jf ((HX.out.other (a := ⟨w.heap.size + 1, 0, none⟩) _ (show w.heap.size ≠ w.heap.size + 1 from by omega)).other (a := ⟨w.heap.size + 1, 1, none⟩) _ (show w.heap.size ≠ w.heap.size + 1 from by omega))).cell 0 rfl, (Jf ((HX.out.other (a := ⟨w.heap.size + 1, 0, none⟩) _ (show w.heap.size ≠ w.heap.size + 1 from by omega)).other (a := ⟨w.heap.size + 1, 1, none⟩) _ (show w.heap.size ≠ w.heap.size + 1 from by omega))).cell 1 rfl⟩)) (fun hHeld2 => ?_)
 clear hK K hHeld; have hHeld := hHeld2; clear hHeld2
 try simp only [Act.put, List.setIfInBounds_toArray, List.set_cons_zero, List.set_cons_succ]
 refine wpAnyH_done (by kernel_rfl) ?_ _
 clear hHeld
 clear e1 QC
 have HR2 := η ((HR.out.set 0 (.int .u64 X)).set 1 (.int .u64 Y))
 have q0 := HR2.out.cell 0 (v := .int .u64 X) rfl
 have q1 := HR2.out.cell 1 (v := .int .u64 Y) rfl
 go_wp2_with fail
 refine bodyPost_ret (v := .agg #[.int .u64 X, .int .u64 Y]) (by simp [results, Tryz.results137, go_sem, q0, q1]) rfl ⟨rfl, ?_⟩
 exact ((HB.out.setCell (p := ⟨w.heap.size + 1, 0, none⟩) (by simp) _).setCell (p := ⟨w.heap.size + 1, 1, none⟩) (by simp) _).drew
structure CstD where
 op : Nat
 slot : Nat
 v : Value
structure StD where
 op : Nat
 k : Nat
 l : List Value
def setL : Array Value → Nat → List Value → Array Value
 | cs, _, [] => cs
 | cs, k, v :: l => setL (cs.setIfInBounds k v) (k + 1) l
theorem Zeg : ∀ (l : List Value) (cs : Array Value) (k : Nat), (setL cs k l).size = cs.size
 | [], _, _ => rfl
 | v :: l, cs, k => by rw [setL, Zeg l]; simp
theorem Zeh {B : Nat} {t : TypeId} : ∀ (l : List Value) (k : Nat) (w : World) (cs : Array Value), Bx w B cs t → Bx (JS w B k l) B (setL cs k l) t
 | [], _, _, _, h => h
 | v :: l, k, w, cs, h => Zeh l (k + 1) _ _ (h.set k v)
theorem Bx.some {w : World} {b : Nat} {cs : Array Value} {t : TypeId} (h : Bx w b cs t) {i : Nat} (hi : i < cs.size) : ∃ v, w.cell? ⟨b, i, none⟩ = some v := ⟨cs[i], h.cell i (by simp [hi])⟩
def fin_ (sts : List StD) (cs0 : Array Value) : Array Value := sts.foldl (fun cs s => setL cs s.k s.l) cs0
theorem Zia (sts : List StD) : ∀ cs0, (fin_ sts cs0).size = cs0.size := by
 induction sts with
 | nil => intro _; rfl
 | cons s sts ih => intro cs0; show (fin_ sts (setL cs0 s.k s.l)).size = _; rw [ih, Zeg]
def Zcm (ops : Array Oper) : List Nat → Bool
 | a :: b :: r => depB ops b a && Zcm ops (b :: r)
 | _ => true
theorem ZcK {ops : Array Oper} : ∀ (l : List Nat), Zcm ops l = true → ∀ t a b, l[t]? = some a → l[t + 1]? = some b → depB ops b a = true
 | a :: b :: r, h, 0, x, y, hx, hy => by
  simp only [Zcm, Bool.and_eq_true] at h
  simp only [List.getElem?_cons_zero, Option.some.injEq, List.getElem?_cons_succ] at hx hy
  subst hx hy; exact h.1
 | a :: b :: r, h, t + 1, x, y, hx, hy => by
  simp only [Zcm, Bool.and_eq_true] at h
  exact ZcK (b :: r) h.2 t x y (by simpa using hx) (by simpa using hy)
 | [_], _, t, _, _, _, hy => by simp at hy
 | [], _, t, _, _, hx, _ => by simp at hx
def Zix (ops : Array Oper) (ss : List Nat) (vs : List (Nat × Nat)) (n : Nat) : Bool :=
 ordB .any ops && decide ((vs.map (·.2)).Nodup) && decide ((vs.map (·.1)).Nodup) && decide (ss.Nodup) && Zcm ops ss && vs.all (fun v => decide (v.1 < ops.size) && decide (v.2 < n) && ss.all fun s => s != v.1) && ss.all (fun s => decide (s < ops.size)) &&
 (List.range ops.size).all fun i => ss.contains i || vs.any fun v => v.1 == i
section
variable {P : Program} {ops : Array Oper} {Q : Exit → Act → World → Prop} {S : World → Prop}
end
theorem Zcn {B : Nat} : ∀ (l : List Value) (k : Nat) (w : World), w.grownBy (JS w B k l) (Option.some B)
 | [], _, w => ⟨rfl, rfl, rfl, Nat.le_refl _, fun _ _ _ => rfl⟩
 | v :: l, k, w => (JK w B k v).trans (Zcn l (k + 1) _)
section
variable {P : Program} {ops : Array Oper} {Q : Exit → Act → World → Prop} {S : World → Prop}
theorem ZcL {a0 : Act} {w0 : World} (E : World → World → Prop) (hE0 : ∀ w, E w w) (hEt : ∀ a b c, E a b → E b c → E a c) (M : Nat) (hES : ∀ (l : List Value) (k : Nat) (w : World), E w (JS w M k l)) (ty : TypeId) (cs0 : Array Value) (sts : List StD) (vs : List CstD) (hV : Zix ops (sts.map (·.op)) (vs.map fun v => (v.op, v.slot)) a0.tmps.size = true)
  (hS : ∀ w, S w) (hbx : Bx w0 M cs0 ty)
  (hval : allP (fun v => ∀ (a : Act) (w : World) (K : Act → World → Prop), E w0 w → (∀ t, (vs.map (·.slot)).contains t = false → a.tmps[t]? = a0.tmps[t]?) → (∀ (k : Nat) (u : CstD), vs[k]? = some u → depB ops v.op u.op = true → a.tmps[u.slot]? = some u.v) →
   ((∀ s0, sts[0]? = some s0 → depB ops s0.op v.op = true) → Bx w M cs0 ty) → K (a.put (some v.slot) v.v) w → wpOp P ops Q v.op K a w) vs)
  (hst : allP (fun s => ∀ (a : Act) (w : World) (cs : Array Value) (K : Act → World → Prop), E w0 w → (∀ t, (vs.map (·.slot)).contains t = false → a.tmps[t]? = a0.tmps[t]?) → (∀ (k : Nat) (u : CstD), vs[k]? = some u → depB ops s.op u.op = true → a.tmps[u.slot]? = some u.v) →
   Bx w M cs ty → cs.size = cs0.size → K a (JS w M s.k s.l) → wpOp P ops Q s.op K a w) sts)
  (hend : ∀ w, E w0 w → Bx w M (fin_ sts cs0) ty → Q .normal (vs.foldl (fun a v => a.put (some v.slot) v.v) a0) w) :
  wpAnyH P .any ops Q S ops.size (Array.replicate ops.size false) a0 w0 := by
 simp only [Zix, Bool.and_eq_true, decide_eq_true_eq, List.all_eq_true, List.map_map] at hV
 obtain ⟨⟨⟨⟨⟨⟨⟨hord, n1⟩, n2⟩, n3⟩, n4⟩, n5⟩, n6⟩, n7⟩ := hV
 have v5 : ∀ v ∈ vs, v.op < ops.size ∧ v.slot < a0.tmps.size ∧ ∀ s ∈ sts, s.op ≠ v.op := fun v hv => by
  have := n5 (v.op, v.slot) (List.mem_map.2 ⟨v, hv, rfl⟩)
  refine ⟨this.1.1, this.1.2, fun s hs => ?_⟩
  have h2 := this.2 s.op (List.mem_map.2 ⟨s, hs, rfl⟩)
  simpa using h2
 have hvinj : ∀ u ∈ vs, ∀ v ∈ vs, u.slot = v.slot → u = v := fun u hu v hv e => Za4 (f := CstD.slot) (by have h := n1; exact h) hu hv e
 have hoinj : ∀ u ∈ vs, ∀ v ∈ vs, u.op = v.op → u = v := fun u hu v hv e => Za4 (f := CstD.op) (by have h := n2; exact h) hu hv e
 have hdep : ∀ {i j : Nat} {o : Oper} {listed : Array Bool}, ops[i]? = some o → (∀ e ∈ o.after, Region.binds .any e = true → listed.getD e.on false = true) → depB ops i j = true → listed.getD j false = true := fun {i j o listed} ho hp hd => by
  unfold depB at hd
  rw [ho] at hd
  simp only [Option.map_some, Option.getD_some, Array.any_eq_true'] at hd
  obtain ⟨e, he, h5⟩ := hd
  simp only [Bool.and_eq_true, beq_iff_eq] at h5
  exact h5.2 ▸ hp e he h5.1
 refine Zda (fun listed a w => E w0 w ∧ a.tmps.size = a0.tmps.size ∧ a.defers = a0.defers ∧ (∀ t, (vs.map (·.slot)).contains t = false → a.tmps[t]? = a0.tmps[t]?) ∧ (∀ v ∈ vs, listed.getD v.op false = true → a.tmps[v.slot]? = some v.v) ∧
   ∃ j, j ≤ sts.length ∧ (∀ t s, sts[t]? = some s → (listed.getD s.op false = true ↔ t < j)) ∧ (0 < j → ∀ s0, sts[0]? = some s0 → ∀ v ∈ vs, depB ops s0.op v.op = true → listed.getD v.op false = true) ∧ Bx w M (fin_ (sts.take j) cs0) ty)
  hord (fun _ _ w _ => hS w) ?_ ?_ ops.size _ a0 w0 (by simp) (by unfold unl; exact Nat.le_trans List.countP_le_length (by simp)) ⟨hE0 _, rfl, rfl, fun _ _ => rfl, fun v hv h => ?_, 0, Nat.zero_le _, fun t s hs => ?_, fun h => absurd h (by omega), by simpa [fin_] using hbx⟩
 ·rintro listed a w i o hsz ho hi hp ⟨j1, j2, j3, j4, j5, j, i1, i2, i3, i4⟩
  have hil : i < ops.size := (Array.getElem?_eq_some_iff.1 ho).1
  have h7 := n7 i (List.mem_range.2 hil)
  simp only [Bool.or_eq_true, List.any_eq_true, beq_iff_eq, List.contains_iff_mem] at h7
  rcases h7 with h | ⟨q, hq, rfl⟩
  ·obtain ⟨s, hs, rfl⟩ := List.mem_map.1 h
   obtain ⟨t, ht⟩ := List.getElem?_of_mem hs
   have htj : t = j := by
    have h1 : ¬ t < j := fun h => by
     have := (i2 t s ht).2 h
     rw [JY hi] at this; cases this
    have h2 : t ≤ j := by
     cases t with
     | zero => omega
     | succ t =>
      have hlt : t < sts.length := by have := (List.getElem?_eq_some_iff.1 ht).1; omega
      obtain ⟨s', hs'⟩ : ∃ s', sts[t]? = some s' := ⟨sts[t], by simp [hlt]⟩
      have hc := ZcK _ n4 t s'.op s.op (by simp [hs']) (by simp [ht])
      have := (i2 t s' hs').1 (hdep ho hp hc)
      omega
    omega
   subst htj
   have hlen : t < sts.length := (List.getElem?_eq_some_iff.1 ht).1
   refine hst.mem s hs a w _ _ j1 j4 (fun k u hu hd => j5 u (List.mem_of_getElem? hu) (hdep ho hp hd)) i4 (Zia _ _) ⟨hEt _ _ _ j1 (hES _ _ _), j2, j3, j4, fun v hv hl => ?_, t + 1, by omega, fun t' s' hs' => ?_, fun _ s0 hs0 v hv hd => ?_, ?_⟩
   ·have hne := (v5 v hv).2.2 s hs
    rw [getD_set_ne false hne] at hl
    exact j5 v hv hl
   ·by_cases e : t' = t
    ·subst e
     rw [ht] at hs'; cases hs'
     exact ⟨fun _ => by omega, fun _ => Zam hi⟩
    ·have hne : s.op ≠ s'.op := fun e' => e (by
      have h1 : (sts.map (·.op))[t]? = some s.op := by simp [ht]
      have h2 : (sts.map (·.op))[t']? = some s.op := by simp [hs', e']
      have hl1 : t < (sts.map (·.op)).length := (List.getElem?_eq_some_iff.1 h1).1
      exact ((List.getElem?_inj hl1 n3).1 (h1.trans h2.symm)).symm)
     rw [getD_set_ne false hne, i2 t' s' hs']
     omega
   ·have hne := (v5 v hv).2.2 s hs
    rw [getD_set_ne false hne]
    by_cases h0 : t = 0
    ·subst h0
     rw [ht] at hs0; cases hs0
     exact hdep ho hp hd
    ·exact i3 (by omega) s0 hs0 v hv hd
   ·have e : sts.take (t + 1) = sts.take t ++ [s] := by
     rw [List.take_add_one, ht]; rfl
    rw [e]
    show Bx _ M (fin_ (sts.take t ++ [s]) cs0) ty
    unfold fin_
    rw [List.foldl_append]
    exact Zeh _ _ _ _ i4
  ·obtain ⟨v, hv, rfl⟩ := List.mem_map.1 hq
   refine hval.mem v hv a w _ j1 j4 (fun k u hu hd => j5 u (List.mem_of_getElem? hu) (hdep ho hp hd)) (fun h0 => ?_) ⟨j1, by simp [Act.put, j2], j3, fun t ht => ?_, fun u hu hl => ?_, j, i1, fun t s hs => ?_, fun h s0 hs0 u hu hd => ?_, i4⟩
   ·have hj : j = 0 := by
     by_cases hj : 0 < j
     ·exfalso
      have hlen : 0 < sts.length := by omega
      obtain ⟨s0, hs0⟩ : ∃ s0, sts[0]? = some s0 := ⟨sts[0], by simp [hlen]⟩
      have := i3 hj s0 hs0 v hv (h0 s0 hs0)
      rw [JY hi] at this; cases this
     ·omega
    subst hj
    simpa [fin_] using i4
   ·have hne : v.slot ≠ t := fun e => by
     have hc : (vs.map (·.slot)).contains t = true := by
      rw [List.contains_iff_mem]; exact List.mem_map.2 ⟨_, hv, e⟩
     rw [hc] at ht; cases ht
    show (a.tmps.setIfInBounds v.slot _)[t]? = _
    rw [Array.getElem?_setIfInBounds_ne hne]; exact j4 t ht
   ·by_cases e : u = v
    ·subst e
     show (a.tmps.setIfInBounds u.slot u.v)[u.slot]? = _
     simp [j2, (v5 u hu).2.1]
    ·have hne : v.op ≠ u.op := fun e' => e (hoinj u hu v hv e'.symm)
     rw [getD_set_ne false hne] at hl
     show (a.tmps.setIfInBounds v.slot v.v)[u.slot]? = _
     rw [Array.getElem?_setIfInBounds_ne (fun e' => e (hvinj u hu v hv e'.symm))]; exact j5 u hu hl
   ·have hne := (v5 v hv).2.2 s (List.mem_of_getElem? hs)
    rw [getD_set_ne false (Ne.symm hne)]; exact i2 t s hs
   ·by_cases e : u = v
    ·subst e; exact Zam hi
    ·have hne : v.op ≠ u.op := fun e' => e (hoinj u hu v hv e'.symm)
     rw [getD_set_ne false hne]; exact i3 h s0 hs0 u hu hd
 ·rintro listed a w hall ⟨j1, j2, j3, j4, j5, j, i1, i2, i3, i4⟩
  have hj : j = sts.length := by
   by_cases h : j < sts.length
   ·exfalso
    have := (i2 j sts[j] (by simp [h])).1 (hall _ (n6 _ (List.mem_map.2 ⟨sts[j], List.getElem_mem _, rfl⟩)))
    omega
   ·omega
  subst hj
  rw [List.take_length] at i4
  have hfv : ∀ (l : List CstD) (a1 : Act), (∀ v ∈ l, v.slot < a1.tmps.size) → (∀ u ∈ l, ∀ v ∈ l, u.slot = v.slot → u = v) → (l.foldl (fun a v => a.put (some v.slot) v.v) a1).defers = a1.defers ∧ (l.foldl (fun a v => a.put (some v.slot) v.v) a1).tmps.size = a1.tmps.size ∧
    (∀ v ∈ l, (l.foldl (fun a v => a.put (some v.slot) v.v) a1).tmps[v.slot]? = some v.v) ∧ ∀ t, (∀ v ∈ l, v.slot ≠ t) → (l.foldl (fun a v => a.put (some v.slot) v.v) a1).tmps[t]? = a1.tmps[t]? := fun l => by
   induction l with
   | nil => intro a1 _ _; exact ⟨rfl, rfl, (fun _ h => by cases h), fun t _ => rfl⟩
   | cons x xs ih =>
    intro a1 h hinj
    have hx := h x (by simp)
    have hs : (a1.put (some x.slot) x.v).tmps.size = a1.tmps.size := by simp [Act.put]
    obtain ⟨h1, h2, h3, h4⟩ := ih (a1.put (some x.slot) x.v) (fun b hb => by rw [hs]; exact h b (List.mem_cons_of_mem _ hb)) (fun u hu v hv => hinj u (List.mem_cons_of_mem _ hu) v (List.mem_cons_of_mem _ hv))
    simp only [List.foldl_cons]
    refine ⟨h1.trans rfl, h2.trans hs, fun v hv => ?_, fun t ht => ?_⟩
    ·by_cases hm : v ∈ xs
     ·exact h3 v hm
     ·have e : v = x := (List.mem_cons.1 hv).resolve_right hm
      subst e
      rw [h4 v.slot (fun u hu e' => hm (by have := hinj u (List.mem_cons_of_mem _ hu) v hv e'; exact this ▸ hu)), Za0 hx, if_pos rfl]
    ·rw [h4 t (fun v hv => ht v (List.mem_cons_of_mem _ hv)), Za0 hx, if_neg (ht x (by simp))]
  obtain ⟨f1, f2, f3, f4⟩ := hfv vs a0 (fun v hv => (v5 v hv).2.1) hvinj
  have ha : a = vs.foldl (fun a v => a.put (some v.slot) v.v) a0 := by
   have ht : a.tmps = (vs.foldl (fun a v => a.put (some v.slot) v.v) a0).tmps := by
    apply Array.ext_getElem?
    intro t
    by_cases e : t ∈ vs.map (·.slot)
    ·obtain ⟨v, hv, rfl⟩ := List.mem_map.1 e
     rw [f3 v hv, j5 v hv (hall _ (v5 v hv).1)]
    ·rw [f4 t (fun v hv h => e (List.mem_map.2 ⟨v, hv, h⟩))]
     refine j4 t ?_
     cases hc : (vs.map (·.slot)).contains t with
     | false => rfl
     | true => rw [List.contains_iff_mem] at hc; exact absurd hc e
   have hdf := j3.trans f1.symm
   revert ht hdf
   generalize vs.foldl (fun a v => a.put (some v.slot) v.v) a0 = a1
   cases a; cases a1
   intro ht hdf
   simp only at ht hdf
   subst ht hdf
   rfl
  rw [ha]
  exact hend w j1 i4
 ·have := (v5 v hv).1
  simp [Array.getD] at h
 ·have := n6 s.op (List.mem_map.2 ⟨s, List.mem_of_getElem? hs, rfl⟩)
  simp [Array.getD]
end
theorem Zhv (k : Int) : rl k % 2 = rl k := by rcases ZaO k with h | h <;> rw [h] <;> rfl
theorem ZjJ (k : Int) : (if rl k % 2 = 1 then ri k else 0) = ri k := by
 rw [Zhv]; unfold rl ri; split <;> simp
theorem ZaP (k : Int) (hk : IsK k) (w : World) :
  Calls Tryz.prog 137 #[.agg #[.int .u64 (rl k), .int .u64 (ri k)]] w fun e w' => e = .returned (.agg #[.int .u64 (rl k), .int .u64 (ri k)]) ∧ Below w.heap.size w w' :=
 Zc3 _ _ _ _ (Zbf k) (Zbg hk) (Zhv k) (ZjJ k) w
theorem ZdR (b : Bool) (d : Int) (hd : IsW d) (w : World) :
  Calls Tryz.prog 137 #[.agg #[.int .u64 (msk b), .int .u64 d]] w fun e w' => e = .returned (.agg #[.int .u64 (rl (keyQ b d)), .int .u64 (ri (keyQ b d))]) ∧ Below w.heap.size w w' := by
 refine Zc3 _ _ _ _ (Zcr b) hd ?_ ?_ w
 ·rw [Zgm hd]; cases b <;> rfl
 ·rw [Zgn hd]; cases b <;> rfl
theorem Zib {x y : Int} (hx : IsK x) (hy : IsK y) : (decide (rl y < rl x) || (decide (rl x = rl y) && decide (ri x < ri y))) = decide (x < y) := by
 unfold IsK at hx hy; unfold rl ri
 rw [Bool.eq_iff_iff]
 by_cases h1 : x < 18446744073709551616 <;> by_cases h2 : y < 18446744073709551616 <;> simp [h1, h2] <;> omega
theorem Zj4 (a b : Bool) : bits .or .u64 (msk a) (msk b) = msk (a || b) := by cases a <;> cases b <;> rfl
theorem Zfr (a b : Bool) : bits .and .u64 (msk a) (msk b) = msk (a && b) := by cases a <;> cases b <;> rfl
set_option maxRecDepth 100000 in
theorem Zfs (x y : Int) (hx : IsK x) (hy : IsK y) (w : World) :
  Calls Tryz.prog 157 #[.agg #[.int .u64 (rl x), .int .u64 (ri x)], .agg #[.int .u64 (rl y), .int .u64 (ri y)]] w fun e w' => e = .returned (.int .u64 (msk (decide (x < y)))) ∧ Below w.heap.size w w' := by
 have HKX := η hx; have HKY := η hy
 obtain ⟨A, hA⟩ : ∃ A, decide (rl y < rl x) = A := ⟨_, rfl⟩
 obtain ⟨B, hB⟩ : ∃ B, decide (rl x = rl y) = B := ⟨_, rfl⟩
 obtain ⟨C, hC⟩ : ∃ C, decide (ri x < ri y) = C := ⟨_, rfl⟩
 have e2 : bits .or .u64 (msk A) (msk (B && C)) = msk (decide (x < y)) := by rw [Zj4, ← hA, ← hB, ← hC, Zib hx hy]
 generalize decide (x < y) = R at *
 have HA := η hA; have HB := η hB; have HC := η hC; clear hx hy hA hB hC
 have e1 := Zfr B C
 go_enter Tryz.func157, Tryz.ntmps157
 go_wp2_with fail
 have HX := η (show Bx ((w.alloc (.cells #[.int .u64 (rl x), .int .u64 (ri x)] 86)).alloc (.cells #[.int .u64 (rl y), .int .u64 (ri y)] 86)) w.heap.size #[.int .u64 (rl x), .int .u64 (ri x)] 86 from (Bx.new _ _ _).alloc _)
 have HY := η (show Bx ((w.alloc (.cells #[.int .u64 (rl x), .int .u64 (ri x)] 86)).alloc (.cells #[.int .u64 (rl y), .int .u64 (ri y)] 86)) (w.heap.size + 1) #[.int .u64 (rl y), .int .u64 (ri y)] 86 from Jb (by simp))
 have HB1 := η (show Below w.heap.size w ((w.alloc (.cells #[.int .u64 (rl x), .int .u64 (ri x)] 86)).alloc (.cells #[.int .u64 (rl y), .int .u64 (ri y)] 86)) from J8 (J8 J0))
 have HSZ := η (show w.heap.size + 1 < ((w.alloc (.cells #[.int .u64 (rl x), .int .u64 (ri x)] 86)).alloc (.cells #[.int .u64 (rl y), .int .u64 (ri y)] 86)).heap.size from by simp)
 generalize ((w.alloc (.cells #[.int .u64 (rl x), .int .u64 (ri x)] 86)).alloc (.cells #[.int .u64 (rl y), .int .u64 (ri y)] 86)) = w1 at *
 have QC := η (show ∀ w', Bx w' w.heap.size #[.int .u64 (rl x), .int .u64 (ri x)] 86 → Bx w' (w.heap.size + 1) #[.int .u64 (rl y), .int .u64 (ri y)] 86 → (w'.cell? ⟨w.heap.size, 0, none⟩ = some (.int .u64 (rl x)) ∧ w'.cell? ⟨w.heap.size, 1, none⟩ = some (.int .u64 (ri x)) ∧ w'.cell? ⟨w.heap.size + 1, 0, none⟩ = some (.int .u64 (rl y)) ∧ w'.cell? ⟨w.heap.size + 1, 1, none⟩ = some (.int .u64 (ri y))) from fun w' h h' => ⟨h.cell 0 rfl, h.cell 1 rfl, h'.cell 0 rfl, h'.cell 1 rfl⟩)
 refine wp_region_held_drew (S := fun w' => w'.cell? ⟨w.heap.size, 0, none⟩ = some (.int .u64 (rl x)) ∧ w'.cell? ⟨w.heap.size, 1, none⟩ = some (.int .u64 (ri x)) ∧ w'.cell? ⟨w.heap.size + 1, 0, none⟩ = some (.int .u64 (rl y)) ∧ w'.cell? ⟨w.heap.size + 1, 1, none⟩ = some (.int .u64 (ri y))) (by kernel_rfl) (QC.out _ (Jf HX.out) (Jf HY.out)) (fun hHeld => ?_)
 refine tk 0 hHeld ?_
 refine tk 2 hHeld ?_
 refine cl 1 (fun K hK => ?_)
 go_simp
 refine (ZaP x HKX.out _).mono ?_
 rintro e w2 ⟨rfl, B⟩
 have HX2 := η ((Jf HX.out).below B ν); have HY2 := η ((Jf HY.out).below B ν); have HB2 := η (HB1.out.drew.trans (B.mono (show w.heap.size ≤ _ from HB1.out.size))); clear B
 go_wp2_with fail
 refine hK.out _ _ (QC.out _ HX2.out HY2.out) (fun hHeld2 => ?_)
 clear hK K hHeld; have hHeld := hHeld2; clear hHeld2
 try simp only [Act.put, List.setIfInBounds_toArray, List.set_cons_zero, List.set_cons_succ]
 refine cl 3 (fun K hK => ?_)
 go_simp
 refine (ZaP y HKY.out _).mono ?_
 rintro e w3 ⟨rfl, B⟩
 have HX3 := η (HX2.out.below B ν); have HY3 := η (HY2.out.below B ν); have HB3 := η (HB2.out.trans (B.mono HB2.out.size)); clear B
 go_wp2_with fail
 refine hK.out _ _ (QC.out _ HX3.out HY3.out) (fun hHeld2 => ?_)
 clear hK K hHeld; have hHeld := hHeld2; clear hHeld2
 try simp only [Act.put, List.setIfInBounds_toArray, List.set_cons_zero, List.set_cons_succ]
 refine cl 4 (fun K hK => ?_)
 have c0 := HX3.out.cell 0 (v := .int .u64 (rl x)) rfl; have c1 := HX3.out.cell 1 (v := .int .u64 (ri x)) rfl; have z0 := HX3.out.free 0; have z1 := HX3.out.free 1; go_simp; clear c0 c1 z0 z1
 have HX4 := η (show Bx ((w3.setCell ⟨w.heap.size, 0, none⟩ (.int .u64 (rl x))).setCell ⟨w.heap.size, 1, none⟩ (.int .u64 (ri x))) w.heap.size #[.int .u64 (rl x), .int .u64 (ri x)] 86 from (HX3.out.set 0 _).set 1 _); have HY4 := η (show Bx ((w3.setCell ⟨w.heap.size, 0, none⟩ (.int .u64 (rl x))).setCell ⟨w.heap.size, 1, none⟩ (.int .u64 (ri x))) (w.heap.size + 1) #[.int .u64 (rl y), .int .u64 (ri y)] 86 from (HY3.out.other (a := ⟨w.heap.size, 0, none⟩) _ (show w.heap.size + 1 ≠ w.heap.size from by omega)).other (a := ⟨w.heap.size, 1, none⟩) _ (show w.heap.size + 1 ≠ w.heap.size from by omega)); have HB4 := η ((HB3.out.setCell (p := ⟨w.heap.size, 0, none⟩) ν (.int .u64 (rl x))).setCell (p := ⟨w.heap.size, 1, none⟩) ν (.int .u64 (ri x))); generalize ((w3.setCell ⟨w.heap.size, 0, none⟩ (.int .u64 (rl x))).setCell ⟨w.heap.size, 1, none⟩ (.int .u64 (ri x))) = w4 at *
 skip
 refine hK.out _ _ (QC.out _ HX4.out HY4.out) (fun hHeld2 => ?_)
 clear hK K hHeld; have hHeld := hHeld2; clear hHeld2
 try simp only [Act.put, List.setIfInBounds_toArray, List.set_cons_zero, List.set_cons_succ]
 refine cl 5 (fun K hK => ?_)
 have c0 := HY4.out.cell 0 (v := .int .u64 (rl y)) rfl; have c1 := HY4.out.cell 1 (v := .int .u64 (ri y)) rfl; have z0 := HY4.out.free 0; have z1 := HY4.out.free 1; go_simp; clear c0 c1 z0 z1
 have HX5 := η (show Bx ((w4.setCell ⟨w.heap.size + 1, 0, none⟩ (.int .u64 (rl y))).setCell ⟨w.heap.size + 1, 1, none⟩ (.int .u64 (ri y))) w.heap.size #[.int .u64 (rl x), .int .u64 (ri x)] 86 from (HX4.out.other (a := ⟨w.heap.size + 1, 0, none⟩) _ (show w.heap.size ≠ w.heap.size + 1 from by omega)).other (a := ⟨w.heap.size + 1, 1, none⟩) _ (show w.heap.size ≠ w.heap.size + 1 from by omega)); have HY5 := η (show Bx ((w4.setCell ⟨w.heap.size + 1, 0, none⟩ (.int .u64 (rl y))).setCell ⟨w.heap.size + 1, 1, none⟩ (.int .u64 (ri y))) (w.heap.size + 1) #[.int .u64 (rl y), .int .u64 (ri y)] 86 from (HY4.out.set 0 _).set 1 _); have HB5 := η ((HB4.out.setCell (p := ⟨w.heap.size + 1, 0, none⟩) (Nat.le_succ _) (.int .u64 (rl y))).setCell (p := ⟨w.heap.size + 1, 1, none⟩) (Nat.le_succ _) (.int .u64 (ri y))); generalize ((w4.setCell ⟨w.heap.size + 1, 0, none⟩ (.int .u64 (rl y))).setCell ⟨w.heap.size + 1, 1, none⟩ (.int .u64 (ri y))) = w5 at *
 skip
 refine hK.out _ _ (QC.out _ HX5.out HY5.out) (fun hHeld2 => ?_)
 clear hK K hHeld; have hHeld := hHeld2; clear hHeld2
 try simp only [Act.put, List.setIfInBounds_toArray, List.set_cons_zero, List.set_cons_succ]
 refine wpAnyH_done (by kernel_rfl) ?_ _
 clear hHeld
 go_wp2_with fail
 refine wp_region_held_drew (S := fun w' => w'.cell? ⟨w.heap.size, 0, none⟩ = some (.int .u64 (rl x)) ∧ w'.cell? ⟨w.heap.size, 1, none⟩ = some (.int .u64 (ri x)) ∧ w'.cell? ⟨w.heap.size + 1, 0, none⟩ = some (.int .u64 (rl y)) ∧ w'.cell? ⟨w.heap.size + 1, 1, none⟩ = some (.int .u64 (ri y))) (by kernel_rfl) (QC.out _ (Jf HX5.out) (Jf HY5.out)) (fun hHeld => ?_)
 refine tk 0 hHeld ?_
 refine tk 1 hHeld ?_
 refine tk 2 hHeld ?_
 refine tk 3 hHeld ?_
 refine tk 5 hHeld ?_
 refine tk 6 hHeld ?_
 refine tk 7 hHeld ?_
 refine tk 8 hHeld ?_
 refine tk 10 hHeld ?_
 refine tk 11 hHeld ?_
 refine tk 12 hHeld ?_
 refine tk 13 hHeld ?_
 refine cl 4 (fun K hK => ?_)
 go_simp
 refine (Ze8 (rl y) (rl x) (Zbf _) (Zbf _) _).mono ?_
 rintro e w6 ⟨rfl, rfl⟩
 rw [HA.out]
 go_wp2_with fail
 refine hK.out _ _ (QC.out _ (Jf HX5.out) (Jf HY5.out)) (fun hHeld2 => ?_)
 clear hK K hHeld; have hHeld := hHeld2; clear hHeld2
 try simp only [Act.put, List.setIfInBounds_toArray, List.set_cons_zero, List.set_cons_succ]
 refine cl 9 (fun K hK => ?_)
 go_simp
 refine (Zdi (rl x) (rl y) (Zbf _) (Zbf _) _).mono ?_
 rintro e w6 ⟨rfl, rfl⟩
 rw [HB.out]
 go_wp2_with fail
 refine hK.out _ _ (QC.out _ (Jf HX5.out) (Jf HY5.out)) (fun hHeld2 => ?_)
 clear hK K hHeld; have hHeld := hHeld2; clear hHeld2
 try simp only [Act.put, List.setIfInBounds_toArray, List.set_cons_zero, List.set_cons_succ]
 refine cl 14 (fun K hK => ?_)
 go_simp
 refine (Ze8 (ri x) (ri y) (Zbg HKX.out) (Zbg HKY.out) _).mono ?_
 rintro e w6 ⟨rfl, rfl⟩
 rw [HC.out]
 go_wp2_with fail
 refine hK.out _ _ (QC.out _ (Jf HX5.out) (Jf HY5.out)) (fun hHeld2 => ?_)
 clear hK K hHeld; have hHeld := hHeld2; clear hHeld2
 try simp only [Act.put, List.setIfInBounds_toArray, List.set_cons_zero, List.set_cons_succ]
 refine tk 15 hHeld ?_
 refine tk 16 hHeld ?_
 refine tk 17 hHeld ?_
 refine wpAnyH_done (by kernel_rfl) ?_ _
 clear hHeld
 go_wp2_with fail
 go_ret
 exact ⟨rfl, HB5.out.drew⟩
theorem Zg0 {w w' : World} (h : Below w.heap.size w w') (r : Option Nat) : w.grownBy w' r := ⟨h.os, h.tape, h.output, h.size, fun k hk _ => h.block k hk⟩
theorem Zj5 {a b : Int} : selI (decide (b < a)) b a = min a b ∧ selI (decide (b < a)) a b = max a b := by
 unfold selI
 by_cases h : b < a
 ·simp [h]; omega
 ·simp [h]; omega
theorem Zhw (m : Bool) (a b : Int) : selI m (rl a) (rl b) = rl (selI m a b) := by cases m <;> rfl
theorem Zhx (m : Bool) (a b : Int) : selI m (ri a) (ri b) = ri (selI m a b) := by cases m <;> rfl
theorem Zic {F : Nat → Int} {n p q : Nat} (hp : p < n) (hq : q < n) (hne : p ≠ q) (hk : ∀ i, i < n → IsK (F i)) : ∀ i, i < n → IsK (exch F p q i) := by
 intro i hi
 have ha := hk p hp; have hb := hk q hq
 rw [Zb6 F hne]
 unfold IsK at *
 split
 ·omega
 ·split
  ·omega
  ·exact hk i hi
theorem Zhy {cur : Array Value} {F : Nat → Int} {n p q : Nat} (h : RowE cur 2 (n * 2) n (reE F)) (hp : p < n) (hq : q < n) (hne : p ≠ q) :
  RowE ((((cur.setIfInBounds (p * 2) (.int .u64 (rl (min (F p) (F q))))).setIfInBounds (q * 2) (.int .u64 (rl (max (F p) (F q))))).setIfInBounds (p * 2 + 1) (.int .u64 (ri (min (F p) (F q))))).setIfInBounds (q * 2 + 1) (.int .u64 (ri (max (F p) (F q))))) 2 (n * 2) n (reE (exch F p q)) := by
 refine ⟨by simp [h.size], fun i hi j hj => ?_⟩
 have hsz := h.size
 have hj2 : j = 0 ∨ j = 1 := by omega
 unfold reE
 rw [Zb6 F hne]
 by_cases e1 : i = p
 ·subst e1
  rcases hj2 with rfl | rfl
  ·rw [Array.getElem?_setIfInBounds_ne (by omega), Array.getElem?_setIfInBounds_ne (by omega), Array.getElem?_setIfInBounds_ne (by omega), Nat.add_zero, Array.getElem?_setIfInBounds_self_of_lt (by omega)]; simp
  ·rw [Array.getElem?_setIfInBounds_ne (by omega), Array.getElem?_setIfInBounds_self_of_lt (by simp; omega)]; simp
 ·by_cases e2 : i = q
  ·subst e2
   rcases hj2 with rfl | rfl
   ·rw [Array.getElem?_setIfInBounds_ne (by omega), Array.getElem?_setIfInBounds_ne (by omega), Nat.add_zero, Array.getElem?_setIfInBounds_self_of_lt (by simp; omega)]; simp [e1]
   ·rw [Array.getElem?_setIfInBounds_self_of_lt (by simp; omega)]; simp [e1]
  ·rw [Array.getElem?_setIfInBounds_ne (by omega), Array.getElem?_setIfInBounds_ne (by omega), Array.getElem?_setIfInBounds_ne (by omega), Array.getElem?_setIfInBounds_ne (by omega), h.at_ i hi j hj]
   unfold reE; simp [e1, e2]
set_option maxRecDepth 100000 in
theorem Zd3 (g n p q : Nat) (F : Nat → Int) (hp : p < n) (hq : q < n) (hne : p ≠ q) (hk : ∀ i, i < n → IsK (F i)) (cur : Array Value) (w : World) (hb : Bx w g cur 86) (hr : RowE cur 2 (n * 2) n (reE F)) :
  Calls Tryz.prog 141 #[.pointer (some ⟨g, p * 2, none⟩), .pointer (some ⟨g, q * 2, none⟩)] w fun e w' => e = .returned (.tuple #[]) ∧ (∃ cur', Bx w' g cur' 86 ∧ RowE cur' 2 (n * 2) n (reE (exch F p q))) ∧ w.grownBy w' (some g) := by
 have KP := η (hk p hp); have KQ := η (hk q hq)
 have HP := η hp; have HQ := η hq; have HNE := η hne
 have HX := η hb; have HR := η hr
 have HFIN := η (Zhy hr hp hq hne)
 have HSEL := η (Zj5 (a := F p) (b := F q))
 have HC := η (show cur[p * 2]? = some (.int .u64 (rl (F p))) ∧ cur[p * 2 + 1]? = some (.int .u64 (ri (F p))) ∧ cur[q * 2]? = some (.int .u64 (rl (F q))) ∧ cur[q * 2 + 1]? = some (.int .u64 (ri (F q))) from ⟨hr.at_ p hp 0 (by decide), hr.at_ p hp 1 (by decide), hr.at_ q hq 0 (by decide), hr.at_ q hq 1 (by decide)⟩)
 have HSZ := η (show p * 2 + 1 < cur.size ∧ q * 2 + 1 < cur.size from by rw [hr.size]; omega)
 clear hp hq hne hb hr hk
 generalize F p = ka at *
 generalize F q = kb at *
 obtain ⟨m, hm⟩ : ∃ m, decide (kb < ka) = m := ⟨_, rfl⟩
 rw [hm] at HSEL
 have HM := η hm; clear hm
 have QC := η (show ∀ w', Bx w' g cur 86 → (w'.cell? ⟨g, p * 2, none⟩ = some (.int .u64 (rl ka)) ∧ w'.cell? ⟨g, p * 2 + 1, none⟩ = some (.int .u64 (ri ka)) ∧ w'.cell? ⟨g, q * 2, none⟩ = some (.int .u64 (rl kb)) ∧ w'.cell? ⟨g, q * 2 + 1, none⟩ = some (.int .u64 (ri kb))) from fun w' h => ⟨h.cell _ HC.out.1, h.cell _ HC.out.2.1, h.cell _ HC.out.2.2.1, h.cell _ HC.out.2.2.2⟩)
 go_enter Tryz.func141, Tryz.ntmps141
 go_wp2_with fail
 refine wp_region_held_drew (S := fun w' => w'.cell? ⟨g, p * 2, none⟩ = some (.int .u64 (rl ka)) ∧ w'.cell? ⟨g, p * 2 + 1, none⟩ = some (.int .u64 (ri ka)) ∧ w'.cell? ⟨g, q * 2, none⟩ = some (.int .u64 (rl kb)) ∧ w'.cell? ⟨g, q * 2 + 1, none⟩ = some (.int .u64 (ri kb))) (by kernel_rfl) (QC.out _ (Jf HX.out)) (fun hHeld => ?_)
 refine tk 0 hHeld ?_
 refine tk 1 hHeld ?_
 refine tk 2 hHeld ?_
 refine tk 3 hHeld ?_
 refine tk 4 hHeld ?_
 refine tk 5 hHeld ?_
 refine cl 6 (fun K hK => ?_)
 go_simp
 refine (Zfs kb ka KQ.out KP.out _).mono ?_
 rintro e w2 ⟨rfl, B⟩
 rw [HM.out]; have HX2 := η ((Jf HX.out).below B ν); have HG2 := η ((Zcw w (some g)).trans (Zg0 B _)); clear B
 go_wp2_with fail
 refine hK.out _ _ (QC.out _ HX2.out) (fun hHeld2 => ?_)
 clear hK K hHeld; have hHeld := hHeld2; clear hHeld2
 try simp only [Act.put, List.setIfInBounds_toArray, List.set_cons_zero, List.set_cons_succ]
 refine tk 7 hHeld ?_
 refine wpAnyH_done (by kernel_rfl) ?_ _
 clear hHeld
 go_wp2_with fail
 have MD := η (show Bx w2.drew (g) (cur) 86 from Jf HX2.out)
 refine wp_region_held_drew (S := fun _ => True) (by kernel_rfl) trivial (fun _ => ?_)
 refine ZcL (fun a b => a.grownBy b (some (g))) (fun w => ⟨rfl, rfl, rfl, Nat.le_refl _, fun _ _ _ => rfl⟩) (fun _ _ _ h k => h.trans k) (g) (fun l k w => Zcn l k w) 86 (cur) [⟨17, p * 2, [.int .u64 (selI m (rl kb) (rl ka))]⟩, ⟨20, q * 2, [.int .u64 (selI m (rl ka) (rl kb))]⟩] [⟨0, 13, .pointer (some ⟨g, p * 2, none⟩)⟩, ⟨1, 14, .pointer (some ⟨g, q * 2, none⟩)⟩, ⟨2, 15, .int .u64 (msk m)⟩, ⟨3, 16, .pointer (some ⟨g, p * 2, none⟩)⟩, ⟨4, 17, .pointer (some ⟨g, p * 2, none⟩)⟩, ⟨5, 18, .pointer (some ⟨g, p * 2, none⟩)⟩, ⟨6, 19, .int .u64 (rl ka)⟩, ⟨7, 20, .pointer (some ⟨g, q * 2, none⟩)⟩, ⟨8, 21, .pointer (some ⟨g, q * 2, none⟩)⟩, ⟨9, 22, .pointer (some ⟨g, q * 2, none⟩)⟩, ⟨10, 23, .int .u64 (rl kb)⟩, ⟨11, 24, .tuple #[.int .u64 (selI m (rl kb) (rl ka)), .int .u64 (selI m (rl ka) (rl kb))]⟩, ⟨12, 12, .tuple #[.int .u64 (selI m (rl kb) (rl ka)), .int .u64 (selI m (rl ka) (rl kb))]⟩, ⟨13, 25, .int .u64 (selI m (rl kb) (rl ka))⟩, ⟨14, 26, .int .u64 (selI m (rl ka) (rl kb))⟩, ⟨15, 27, .pointer (some ⟨g, p * 2, none⟩)⟩, ⟨16, 28, .pointer (some ⟨g, p * 2, none⟩)⟩, ⟨18, 29, .pointer (some ⟨g, q * 2, none⟩)⟩, ⟨19, 30, .pointer (some ⟨g, q * 2, none⟩)⟩] (by kernel_rfl) (fun _ => trivial) MD.out ?_ ?_ ?_
 ·refine ⟨?_, ?_, ?_, ?_, ?_, ?_, ?_, ?_, ?_, ?_, ?_, ?_, ?_, ?_, ?_, ?_, ?_, ?_, ?_, trivial⟩
  ·intro a wz K hb ht hd hM hK
   have HK := η hK; clear hK hb
   have hx0 := (ht 0 rfl).trans rfl
   have es0 : a.tmps.getD 0 undef = _ := J7 hx0; clear hx0
   clear ht hd
   clear hM
   refine oQ (fun K' HK' => ?_)
   go_simp
   exact HK'.out _ _ HK.out
  ·intro a wz K hb ht hd hM hK
   have HK := η hK; clear hK hb
   have hx1 := (ht 1 rfl).trans rfl
   have es1 : a.tmps.getD 1 undef = _ := J7 hx1; clear hx1
   clear ht hd
   clear hM
   refine oQ (fun K' HK' => ?_)
   go_simp
   exact HK'.out _ _ HK.out
  ·intro a wz K hb ht hd hM hK
   have HK := η hK; clear hK hb
   have hx4 := (ht 4 rfl).trans rfl
   have es4 : a.tmps.getD 4 undef = _ := J7 hx4; clear hx4
   clear ht hd
   clear hM
   refine oQ (fun K' HK' => ?_)
   go_simp
   exact HK'.out _ _ HK.out
  ·intro a wz K hb ht hd hM hK
   have HK := η hK; clear hK hb
   have hx0 := (ht 0 rfl).trans rfl
   have es0 : a.tmps.getD 0 undef = _ := J7 hx0; clear hx0
   clear ht hd
   clear hM
   refine oQ (fun K' HK' => ?_)
   go_simp
   exact HK'.out _ _ HK.out
  ·intro a wz K hb ht hd hM hK
   have HK := η hK; clear hK hb
   have hx16 : a.tmps[16]? = some (.pointer (some ⟨g, p * 2, none⟩)) := hd 3 _ rfl (by kernel_rfl)
   have es16 : a.tmps.getD 16 undef = _ := J7 hx16; clear hx16
   clear ht hd
   clear hM
   refine oQ (fun K' HK' => ?_)
   go_simp
   exact HK'.out _ _ HK.out
  ·intro a wz K hb ht hd hM hK
   have HK := η hK; clear hK hb
   have hx17 : a.tmps[17]? = some (.pointer (some ⟨g, p * 2, none⟩)) := hd 4 _ rfl (by kernel_rfl)
   have es17 : a.tmps.getD 17 undef = _ := J7 hx17; clear hx17
   clear ht hd
   clear hM
   refine oQ (fun K' HK' => ?_)
   go_simp
   exact HK'.out _ _ HK.out
  ·intro a wz K hb ht hd hM hK
   have HK := η hK; clear hK hb
   have hx18 : a.tmps[18]? = some (.pointer (some ⟨g, p * 2, none⟩)) := hd 5 _ rfl (by kernel_rfl)
   have es18 : a.tmps.getD 18 undef = _ := J7 hx18; clear hx18
   clear ht hd
   have HM := η (hM (fun s0 h => by cases h; kernel_rfl))
   have zc0 := HM.out.cell (p * 2) (v := .int .u64 (rl ka)) (HC.out.1)
   clear hM
   refine oQ (fun K' HK' => ?_)
   go_simp
   exact HK'.out _ _ HK.out
  ·intro a wz K hb ht hd hM hK
   have HK := η hK; clear hK hb
   have hx1 := (ht 1 rfl).trans rfl
   have es1 : a.tmps.getD 1 undef = _ := J7 hx1; clear hx1
   clear ht hd
   clear hM
   refine oQ (fun K' HK' => ?_)
   go_simp
   exact HK'.out _ _ HK.out
  ·intro a wz K hb ht hd hM hK
   have HK := η hK; clear hK hb
   have hx20 : a.tmps[20]? = some (.pointer (some ⟨g, q * 2, none⟩)) := hd 7 _ rfl (by kernel_rfl)
   have es20 : a.tmps.getD 20 undef = _ := J7 hx20; clear hx20
   clear ht hd
   clear hM
   refine oQ (fun K' HK' => ?_)
   go_simp
   exact HK'.out _ _ HK.out
  ·intro a wz K hb ht hd hM hK
   have HK := η hK; clear hK hb
   have hx21 : a.tmps[21]? = some (.pointer (some ⟨g, q * 2, none⟩)) := hd 8 _ rfl (by kernel_rfl)
   have es21 : a.tmps.getD 21 undef = _ := J7 hx21; clear hx21
   clear ht hd
   clear hM
   refine oQ (fun K' HK' => ?_)
   go_simp
   exact HK'.out _ _ HK.out
  ·intro a wz K hb ht hd hM hK
   have HK := η hK; clear hK hb
   have hx22 : a.tmps[22]? = some (.pointer (some ⟨g, q * 2, none⟩)) := hd 9 _ rfl (by kernel_rfl)
   have es22 : a.tmps.getD 22 undef = _ := J7 hx22; clear hx22
   clear ht hd
   have HM := η (hM (fun s0 h => by cases h; kernel_rfl))
   have zc0 := HM.out.cell (q * 2) (v := .int .u64 (rl kb)) (HC.out.2.2.1)
   clear hM
   refine oQ (fun K' HK' => ?_)
   go_simp
   exact HK'.out _ _ HK.out
  ·intro a wz K hb ht hd hM hK
   have HK := η hK; clear hK hb
   have hx15 : a.tmps[15]? = some (.int .u64 (msk m)) := hd 2 _ rfl (by kernel_rfl)
   have es15 : a.tmps.getD 15 undef = _ := J7 hx15; clear hx15
   have hx19 : a.tmps[19]? = some (.int .u64 (rl ka)) := hd 6 _ rfl (by kernel_rfl)
   have es19 : a.tmps.getD 19 undef = _ := J7 hx19; clear hx19
   have hx23 : a.tmps[23]? = some (.int .u64 (rl kb)) := hd 10 _ rfl (by kernel_rfl)
   have es23 : a.tmps.getD 23 undef = _ := J7 hx23; clear hx23
   clear ht hd
   clear hM
   refine oQ (fun K' HK' => ?_)
   go_simp
   refine (Zee m (rl ka) (rl kb) (Zbf _) (Zbf _) _).mono ?_
   rintro e w1 ⟨rfl, rfl⟩
   go_wp2_with fail
   exact HK'.out _ _ HK.out
  ·intro a wz K hb ht hd hM hK
   have HK := η hK; clear hK hb
   have hx24 : a.tmps[24]? = some (.tuple #[.int .u64 (selI m (rl kb) (rl ka)), .int .u64 (selI m (rl ka) (rl kb))]) := hd 11 _ rfl (by kernel_rfl)
   have es24 : a.tmps.getD 24 undef = _ := J7 hx24; clear hx24
   clear ht hd
   clear hM
   refine oQ (fun K' HK' => ?_)
   go_simp
   exact HK'.out _ _ HK.out
  ·intro a wz K hb ht hd hM hK
   have HK := η hK; clear hK hb
   have hx12 : a.tmps[12]? = some (.tuple #[.int .u64 (selI m (rl kb) (rl ka)), .int .u64 (selI m (rl ka) (rl kb))]) := hd 12 _ rfl (by kernel_rfl)
   have es12 : a.tmps.getD 12 undef = _ := J7 hx12; clear hx12
   clear ht hd
   clear hM
   refine oQ (fun K' HK' => ?_)
   go_simp
   exact HK'.out _ _ HK.out
  ·intro a wz K hb ht hd hM hK
   have HK := η hK; clear hK hb
   have hx12 : a.tmps[12]? = some (.tuple #[.int .u64 (selI m (rl kb) (rl ka)), .int .u64 (selI m (rl ka) (rl kb))]) := hd 12 _ rfl (by kernel_rfl)
   have es12 : a.tmps.getD 12 undef = _ := J7 hx12; clear hx12
   clear ht hd
   clear hM
   refine oQ (fun K' HK' => ?_)
   go_simp
   exact HK'.out _ _ HK.out
  ·intro a wz K hb ht hd hM hK
   have HK := η hK; clear hK hb
   have hx13 : a.tmps[13]? = some (.pointer (some ⟨g, p * 2, none⟩)) := hd 0 _ rfl (by kernel_rfl)
   have es13 : a.tmps.getD 13 undef = _ := J7 hx13; clear hx13
   clear ht hd
   clear hM
   refine oQ (fun K' HK' => ?_)
   go_simp
   exact HK'.out _ _ HK.out
  ·intro a wz K hb ht hd hM hK
   have HK := η hK; clear hK hb
   have hx27 : a.tmps[27]? = some (.pointer (some ⟨g, p * 2, none⟩)) := hd 15 _ rfl (by kernel_rfl)
   have es27 : a.tmps.getD 27 undef = _ := J7 hx27; clear hx27
   clear ht hd
   clear hM
   refine oQ (fun K' HK' => ?_)
   go_simp
   exact HK'.out _ _ HK.out
  ·intro a wz K hb ht hd hM hK
   have HK := η hK; clear hK hb
   have hx14 : a.tmps[14]? = some (.pointer (some ⟨g, q * 2, none⟩)) := hd 1 _ rfl (by kernel_rfl)
   have es14 : a.tmps.getD 14 undef = _ := J7 hx14; clear hx14
   clear ht hd
   clear hM
   refine oQ (fun K' HK' => ?_)
   go_simp
   exact HK'.out _ _ HK.out
  ·intro a wz K hb ht hd hM hK
   have HK := η hK; clear hK hb
   have hx29 : a.tmps[29]? = some (.pointer (some ⟨g, q * 2, none⟩)) := hd 17 _ rfl (by kernel_rfl)
   have es29 : a.tmps.getD 29 undef = _ := J7 hx29; clear hx29
   clear ht hd
   clear hM
   refine oQ (fun K' HK' => ?_)
   go_simp
   exact HK'.out _ _ HK.out
 ·refine ⟨?_, ?_, trivial⟩
  ·intro a wz cs_ K hb ht hd hbx hsz hK
   have HK := η hK; clear hK hb
   have hx28 : a.tmps[28]? = some (.pointer (some ⟨g, p * 2, none⟩)) := hd 16 _ rfl (by kernel_rfl)
   have es28 : a.tmps.getD 28 undef = _ := J7 hx28; clear hx28
   have hx25 : a.tmps[25]? = some (.int .u64 (selI m (rl kb) (rl ka))) := hd 13 _ rfl (by kernel_rfl)
   have es25 : a.tmps.getD 25 undef = _ := J7 hx25; clear hx25
   clear ht hd
   obtain ⟨zv0, zc0⟩ := hbx.some (i := p * 2) (by rw [hsz]; exact (by have := HSZ.out; omega)); have zf0 := hbx.free (p * 2)
   have zl := hbx.lt; clear hbx hsz
   refine oQ (fun K' HK' => ?_)
   go_simp
   exact HK'.out _ _ HK.out
  ·intro a wz cs_ K hb ht hd hbx hsz hK
   have HK := η hK; clear hK hb
   have hx30 : a.tmps[30]? = some (.pointer (some ⟨g, q * 2, none⟩)) := hd 18 _ rfl (by kernel_rfl)
   have es30 : a.tmps.getD 30 undef = _ := J7 hx30; clear hx30
   have hx26 : a.tmps[26]? = some (.int .u64 (selI m (rl ka) (rl kb))) := hd 14 _ rfl (by kernel_rfl)
   have es26 : a.tmps.getD 26 undef = _ := J7 hx26; clear hx26
   clear ht hd
   obtain ⟨zv0, zc0⟩ := hbx.some (i := q * 2) (by rw [hsz]; exact (by have := HSZ.out; omega)); have zf0 := hbx.free (q * 2)
   have zl := hbx.lt; clear hbx hsz
   refine oQ (fun K' HK' => ?_)
   go_simp
   exact HK'.out _ _ HK.out
 intro w5 hb hx
 have hG5 := η ((Zcw _ _).trans hb); have hX5 := η hx; clear hb hx MD HX2
 simp only [List.foldl_cons, List.foldl_nil, Act.put, List.setIfInBounds_toArray, List.set_cons_zero, List.set_cons_succ]
 have HX3 := η (show Bx w5 g ((cur.setIfInBounds (p * 2) (.int .u64 (selI m (rl kb) (rl ka)))).setIfInBounds (q * 2) (.int .u64 (selI m (rl ka) (rl kb)))) 86 from hX5.out)
 have HC3 := η (show ((cur.setIfInBounds (p * 2) (.int .u64 (selI m (rl kb) (rl ka)))).setIfInBounds (q * 2) (.int .u64 (selI m (rl ka) (rl kb))))[p * 2 + 1]? = some (.int .u64 (ri ka)) ∧ ((cur.setIfInBounds (p * 2) (.int .u64 (selI m (rl kb) (rl ka)))).setIfInBounds (q * 2) (.int .u64 (selI m (rl ka) (rl kb))))[q * 2 + 1]? = some (.int .u64 (ri kb)) from ⟨by rw [Array.getElem?_setIfInBounds_ne (by have := HNE.out; omega), Array.getElem?_setIfInBounds_ne (by have := HNE.out; omega)]; exact HC.out.2.1, by rw [Array.getElem?_setIfInBounds_ne (by have := HNE.out; omega), Array.getElem?_setIfInBounds_ne (by have := HNE.out; omega)]; exact HC.out.2.2.2⟩)
 have HSZ3 := η (show p * 2 + 1 < ((cur.setIfInBounds (p * 2) (.int .u64 (selI m (rl kb) (rl ka)))).setIfInBounds (q * 2) (.int .u64 (selI m (rl ka) (rl kb)))).size ∧ q * 2 + 1 < ((cur.setIfInBounds (p * 2) (.int .u64 (selI m (rl kb) (rl ka)))).setIfInBounds (q * 2) (.int .u64 (selI m (rl ka) (rl kb)))).size from by simpa using HSZ.out)
 go_wp2_with fail
 have MD := η (show Bx w5.drew (g) ((cur.setIfInBounds (p * 2) (.int .u64 (selI m (rl kb) (rl ka)))).setIfInBounds (q * 2) (.int .u64 (selI m (rl ka) (rl kb)))) 86 from Jf HX3.out)
 refine wp_region_held_drew (S := fun _ => True) (by kernel_rfl) trivial (fun _ => ?_)
 refine ZcL (fun a b => a.grownBy b (some (g))) (fun w => ⟨rfl, rfl, rfl, Nat.le_refl _, fun _ _ _ => rfl⟩) (fun _ _ _ h k => h.trans k) (g) (fun l k w => Zcn l k w) 86 ((cur.setIfInBounds (p * 2) (.int .u64 (selI m (rl kb) (rl ka)))).setIfInBounds (q * 2) (.int .u64 (selI m (rl ka) (rl kb)))) [⟨17, p * 2 + 1, [.int .u64 (selI m (ri kb) (ri ka))]⟩, ⟨20, q * 2 + 1, [.int .u64 (selI m (ri ka) (ri kb))]⟩] [⟨0, 32, .pointer (some ⟨g, p * 2, none⟩)⟩, ⟨1, 33, .pointer (some ⟨g, q * 2, none⟩)⟩, ⟨2, 34, .int .u64 (msk m)⟩, ⟨3, 35, .pointer (some ⟨g, p * 2, none⟩)⟩, ⟨4, 36, .pointer (some ⟨g, p * 2, none⟩)⟩, ⟨5, 37, .pointer (some ⟨g, p * 2 + 1, none⟩)⟩, ⟨6, 38, .int .u64 (ri ka)⟩, ⟨7, 39, .pointer (some ⟨g, q * 2, none⟩)⟩, ⟨8, 40, .pointer (some ⟨g, q * 2, none⟩)⟩, ⟨9, 41, .pointer (some ⟨g, q * 2 + 1, none⟩)⟩, ⟨10, 42, .int .u64 (ri kb)⟩, ⟨11, 43, .tuple #[.int .u64 (selI m (ri kb) (ri ka)), .int .u64 (selI m (ri ka) (ri kb))]⟩, ⟨12, 31, .tuple #[.int .u64 (selI m (ri kb) (ri ka)), .int .u64 (selI m (ri ka) (ri kb))]⟩, ⟨13, 44, .int .u64 (selI m (ri kb) (ri ka))⟩, ⟨14, 45, .int .u64 (selI m (ri ka) (ri kb))⟩, ⟨15, 46, .pointer (some ⟨g, p * 2, none⟩)⟩, ⟨16, 47, .pointer (some ⟨g, p * 2 + 1, none⟩)⟩, ⟨18, 48, .pointer (some ⟨g, q * 2, none⟩)⟩, ⟨19, 49, .pointer (some ⟨g, q * 2 + 1, none⟩)⟩] (by kernel_rfl) (fun _ => trivial) MD.out ?_ ?_ ?_
 ·refine ⟨?_, ?_, ?_, ?_, ?_, ?_, ?_, ?_, ?_, ?_, ?_, ?_, ?_, ?_, ?_, ?_, ?_, ?_, ?_, trivial⟩
  ·intro a wz K hb ht hd hM hK
   have HK := η hK; clear hK hb
   have hx0 := (ht 0 rfl).trans rfl
   have es0 : a.tmps.getD 0 undef = _ := J7 hx0; clear hx0
   clear ht hd
   clear hM
   refine oQ (fun K' HK' => ?_)
   go_simp
   exact HK'.out _ _ HK.out
  ·intro a wz K hb ht hd hM hK
   have HK := η hK; clear hK hb
   have hx1 := (ht 1 rfl).trans rfl
   have es1 : a.tmps.getD 1 undef = _ := J7 hx1; clear hx1
   clear ht hd
   clear hM
   refine oQ (fun K' HK' => ?_)
   go_simp
   exact HK'.out _ _ HK.out
  ·intro a wz K hb ht hd hM hK
   have HK := η hK; clear hK hb
   have hx4 := (ht 4 rfl).trans rfl
   have es4 : a.tmps.getD 4 undef = _ := J7 hx4; clear hx4
   clear ht hd
   clear hM
   refine oQ (fun K' HK' => ?_)
   go_simp
   exact HK'.out _ _ HK.out
  ·intro a wz K hb ht hd hM hK
   have HK := η hK; clear hK hb
   have hx0 := (ht 0 rfl).trans rfl
   have es0 : a.tmps.getD 0 undef = _ := J7 hx0; clear hx0
   clear ht hd
   clear hM
   refine oQ (fun K' HK' => ?_)
   go_simp
   exact HK'.out _ _ HK.out
  ·intro a wz K hb ht hd hM hK
   have HK := η hK; clear hK hb
   have hx35 : a.tmps[35]? = some (.pointer (some ⟨g, p * 2, none⟩)) := hd 3 _ rfl (by kernel_rfl)
   have es35 : a.tmps.getD 35 undef = _ := J7 hx35; clear hx35
   clear ht hd
   clear hM
   refine oQ (fun K' HK' => ?_)
   go_simp
   exact HK'.out _ _ HK.out
  ·intro a wz K hb ht hd hM hK
   have HK := η hK; clear hK hb
   have hx36 : a.tmps[36]? = some (.pointer (some ⟨g, p * 2, none⟩)) := hd 4 _ rfl (by kernel_rfl)
   have es36 : a.tmps.getD 36 undef = _ := J7 hx36; clear hx36
   clear ht hd
   clear hM
   refine oQ (fun K' HK' => ?_)
   go_simp
   exact HK'.out _ _ HK.out
  ·intro a wz K hb ht hd hM hK
   have HK := η hK; clear hK hb
   have hx37 : a.tmps[37]? = some (.pointer (some ⟨g, p * 2 + 1, none⟩)) := hd 5 _ rfl (by kernel_rfl)
   have es37 : a.tmps.getD 37 undef = _ := J7 hx37; clear hx37
   clear ht hd
   have HM := η (hM (fun s0 h => by cases h; kernel_rfl))
   have zc0 := HM.out.cell (p * 2 + 1) (v := .int .u64 (ri ka)) (HC3.out.1)
   clear hM
   refine oQ (fun K' HK' => ?_)
   go_simp
   exact HK'.out _ _ HK.out
  ·intro a wz K hb ht hd hM hK
   have HK := η hK; clear hK hb
   have hx1 := (ht 1 rfl).trans rfl
   have es1 : a.tmps.getD 1 undef = _ := J7 hx1; clear hx1
   clear ht hd
   clear hM
   refine oQ (fun K' HK' => ?_)
   go_simp
   exact HK'.out _ _ HK.out
  ·intro a wz K hb ht hd hM hK
   have HK := η hK; clear hK hb
   have hx39 : a.tmps[39]? = some (.pointer (some ⟨g, q * 2, none⟩)) := hd 7 _ rfl (by kernel_rfl)
   have es39 : a.tmps.getD 39 undef = _ := J7 hx39; clear hx39
   clear ht hd
   clear hM
   refine oQ (fun K' HK' => ?_)
   go_simp
   exact HK'.out _ _ HK.out
  ·intro a wz K hb ht hd hM hK
   have HK := η hK; clear hK hb
   have hx40 : a.tmps[40]? = some (.pointer (some ⟨g, q * 2, none⟩)) := hd 8 _ rfl (by kernel_rfl)
   have es40 : a.tmps.getD 40 undef = _ := J7 hx40; clear hx40
   clear ht hd
   clear hM
   refine oQ (fun K' HK' => ?_)
   go_simp
   exact HK'.out _ _ HK.out
  ·intro a wz K hb ht hd hM hK
   have HK := η hK; clear hK hb
   have hx41 : a.tmps[41]? = some (.pointer (some ⟨g, q * 2 + 1, none⟩)) := hd 9 _ rfl (by kernel_rfl)
   have es41 : a.tmps.getD 41 undef = _ := J7 hx41; clear hx41
   clear ht hd
   have HM := η (hM (fun s0 h => by cases h; kernel_rfl))
   have zc0 := HM.out.cell (q * 2 + 1) (v := .int .u64 (ri kb)) (HC3.out.2)
   clear hM
   refine oQ (fun K' HK' => ?_)
   go_simp
   exact HK'.out _ _ HK.out
  ·intro a wz K hb ht hd hM hK
   have HK := η hK; clear hK hb
   have hx34 : a.tmps[34]? = some (.int .u64 (msk m)) := hd 2 _ rfl (by kernel_rfl)
   have es34 : a.tmps.getD 34 undef = _ := J7 hx34; clear hx34
   have hx38 : a.tmps[38]? = some (.int .u64 (ri ka)) := hd 6 _ rfl (by kernel_rfl)
   have es38 : a.tmps.getD 38 undef = _ := J7 hx38; clear hx38
   have hx42 : a.tmps[42]? = some (.int .u64 (ri kb)) := hd 10 _ rfl (by kernel_rfl)
   have es42 : a.tmps.getD 42 undef = _ := J7 hx42; clear hx42
   clear ht hd
   clear hM
   refine oQ (fun K' HK' => ?_)
   go_simp
   refine (Zee m (ri ka) (ri kb) (Zbg KP.out) (Zbg KQ.out) _).mono ?_
   rintro e w1 ⟨rfl, rfl⟩
   go_wp2_with fail
   exact HK'.out _ _ HK.out
  ·intro a wz K hb ht hd hM hK
   have HK := η hK; clear hK hb
   have hx43 : a.tmps[43]? = some (.tuple #[.int .u64 (selI m (ri kb) (ri ka)), .int .u64 (selI m (ri ka) (ri kb))]) := hd 11 _ rfl (by kernel_rfl)
   have es43 : a.tmps.getD 43 undef = _ := J7 hx43; clear hx43
   clear ht hd
   clear hM
   refine oQ (fun K' HK' => ?_)
   go_simp
   exact HK'.out _ _ HK.out
  ·intro a wz K hb ht hd hM hK
   have HK := η hK; clear hK hb
   have hx31 : a.tmps[31]? = some (.tuple #[.int .u64 (selI m (ri kb) (ri ka)), .int .u64 (selI m (ri ka) (ri kb))]) := hd 12 _ rfl (by kernel_rfl)
   have es31 : a.tmps.getD 31 undef = _ := J7 hx31; clear hx31
   clear ht hd
   clear hM
   refine oQ (fun K' HK' => ?_)
   go_simp
   exact HK'.out _ _ HK.out
  ·intro a wz K hb ht hd hM hK
   have HK := η hK; clear hK hb
   have hx31 : a.tmps[31]? = some (.tuple #[.int .u64 (selI m (ri kb) (ri ka)), .int .u64 (selI m (ri ka) (ri kb))]) := hd 12 _ rfl (by kernel_rfl)
   have es31 : a.tmps.getD 31 undef = _ := J7 hx31; clear hx31
   clear ht hd
   clear hM
   refine oQ (fun K' HK' => ?_)
   go_simp
   exact HK'.out _ _ HK.out
  ·intro a wz K hb ht hd hM hK
   have HK := η hK; clear hK hb
   have hx32 : a.tmps[32]? = some (.pointer (some ⟨g, p * 2, none⟩)) := hd 0 _ rfl (by kernel_rfl)
   have es32 : a.tmps.getD 32 undef = _ := J7 hx32; clear hx32
   clear ht hd
   clear hM
   refine oQ (fun K' HK' => ?_)
   go_simp
   exact HK'.out _ _ HK.out
  ·intro a wz K hb ht hd hM hK
   have HK := η hK; clear hK hb
   have hx46 : a.tmps[46]? = some (.pointer (some ⟨g, p * 2, none⟩)) := hd 15 _ rfl (by kernel_rfl)
   have es46 : a.tmps.getD 46 undef = _ := J7 hx46; clear hx46
   clear ht hd
   clear hM
   refine oQ (fun K' HK' => ?_)
   go_simp
   exact HK'.out _ _ HK.out
  ·intro a wz K hb ht hd hM hK
   have HK := η hK; clear hK hb
   have hx33 : a.tmps[33]? = some (.pointer (some ⟨g, q * 2, none⟩)) := hd 1 _ rfl (by kernel_rfl)
   have es33 : a.tmps.getD 33 undef = _ := J7 hx33; clear hx33
   clear ht hd
   clear hM
   refine oQ (fun K' HK' => ?_)
   go_simp
   exact HK'.out _ _ HK.out
  ·intro a wz K hb ht hd hM hK
   have HK := η hK; clear hK hb
   have hx48 : a.tmps[48]? = some (.pointer (some ⟨g, q * 2, none⟩)) := hd 17 _ rfl (by kernel_rfl)
   have es48 : a.tmps.getD 48 undef = _ := J7 hx48; clear hx48
   clear ht hd
   clear hM
   refine oQ (fun K' HK' => ?_)
   go_simp
   exact HK'.out _ _ HK.out
 ·refine ⟨?_, ?_, trivial⟩
  ·intro a wz cs_ K hb ht hd hbx hsz hK
   have HK := η hK; clear hK hb
   have hx47 : a.tmps[47]? = some (.pointer (some ⟨g, p * 2 + 1, none⟩)) := hd 16 _ rfl (by kernel_rfl)
   have es47 : a.tmps.getD 47 undef = _ := J7 hx47; clear hx47
   have hx44 : a.tmps[44]? = some (.int .u64 (selI m (ri kb) (ri ka))) := hd 13 _ rfl (by kernel_rfl)
   have es44 : a.tmps.getD 44 undef = _ := J7 hx44; clear hx44
   clear ht hd
   obtain ⟨zv0, zc0⟩ := hbx.some (i := p * 2 + 1) (by rw [hsz]; exact (by have := HSZ3.out; omega)); have zf0 := hbx.free (p * 2 + 1)
   have zl := hbx.lt; clear hbx hsz
   refine oQ (fun K' HK' => ?_)
   go_simp
   exact HK'.out _ _ HK.out
  ·intro a wz cs_ K hb ht hd hbx hsz hK
   have HK := η hK; clear hK hb
   have hx49 : a.tmps[49]? = some (.pointer (some ⟨g, q * 2 + 1, none⟩)) := hd 18 _ rfl (by kernel_rfl)
   have es49 : a.tmps.getD 49 undef = _ := J7 hx49; clear hx49
   have hx45 : a.tmps[45]? = some (.int .u64 (selI m (ri ka) (ri kb))) := hd 14 _ rfl (by kernel_rfl)
   have es45 : a.tmps.getD 45 undef = _ := J7 hx45; clear hx45
   clear ht hd
   obtain ⟨zv0, zc0⟩ := hbx.some (i := q * 2 + 1) (by rw [hsz]; exact (by have := HSZ3.out; omega)); have zf0 := hbx.free (q * 2 + 1)
   have zl := hbx.lt; clear hbx hsz
   refine oQ (fun K' HK' => ?_)
   go_simp
   exact HK'.out _ _ HK.out
 intro w7 hb hx
 have hG7 := η ((Zcw _ _).trans hb); have hX7 := η hx; clear hb hx MD HX3
 simp only [List.foldl_cons, List.foldl_nil, Act.put, List.setIfInBounds_toArray, List.set_cons_zero, List.set_cons_succ]
 go_wp2_with fail
 go_end0
 refine ⟨rfl, ⟨_, hX7.out, ?_⟩, (HG2.out.trans hG5.out).trans hG7.out⟩
 have := HFIN.out
 rw [← HSEL.out.1, ← HSEL.out.2, ← Zhw, ← Zhw, ← Zhx, ← Zhx] at this
 exact this
end Go.Proofs.YtjdiilkljgljkaaGreatDoor
namespace Go.Proofs.YtjdiilkljgljkaaGreatDoor
set_option linter.unusedVariables false
set_option linter.unusedSimpArgs false
open Go.RowKit Wd Go.Shelf
attribute [local go_sem] Oper.semAt_some
def padK (h : Nat → Int) (n : Nat) : Nat → Int := fun i => if i < n then h i else 18446744073709551616
theorem Zd4 {h : Nat → Int} {n : Nat} (hk : ∀ i, i < n → IsK (h i)) (i : Nat) : IsK (padK h n i) := by
 unfold padK; split
 ·exact hk i ‹_›
 ·unfold IsK; omega
def recL (h : Nat → Int) : Nat → List Value
 | 0 => []
 | k + 1 => recL h k ++ [.int .u64 (rl (h k)), .int .u64 (ri (h k))]
theorem ZaQ (h : Nat → Int) : ∀ k, (recL h k).length = k * 2
 | 0 => rfl
 | k + 1 => by rw [recL, List.length_append, ZaQ h k]; simp; omega
theorem Zd5 (h : Nat → Int) : ∀ n i, i < n → (recL h n)[i * 2]? = some (.int .u64 (rl (h i))) ∧ (recL h n)[i * 2 + 1]? = some (.int .u64 (ri (h i)))
 | 0, i, hi => absurd hi (by omega)
 | n + 1, i, hi => by
  rw [recL]
  have hl := ZaQ h n
  rcases (by omega : i < n ∨ i = n) with h1 | rfl
  ·rw [List.getElem?_append_left (by omega), List.getElem?_append_left (by omega)]
   exact Zd5 h n i h1
  ·rw [List.getElem?_append_right (by omega), List.getElem?_append_right (by omega), hl]
   simp
theorem Zft (h : Nat → Int) : ∀ k, ∀ u ∈ recL h k, u.oneCell' = true
 | 0, u, hu => by simp [recL] at hu
 | k + 1, u, hu => by
  rw [recL, List.mem_append] at hu
  rcases hu with hu | hu
  ·exact Zft h k u hu
  ·simp at hu; rcases hu with rfl | rfl <;> rfl
theorem Zj6 {w : World} {b off n c : Nat} {h : Nat → Int} (hr : Rcs w (some ⟨b, off, none⟩) n c h) : ∀ j u, (recL h n)[j]? = some u → w.cell? ((⟨b, off, none⟩ : Addr).add j) = some u := by
 intro j u hj
 have hlt : j < n * 2 := by have := (List.getElem?_eq_some_iff.1 hj).1; rw [ZaQ] at this; exact this
 obtain ⟨b', off', e, _, hc⟩ := hr.at_ (by omega)
 cases e
 have ea : (⟨b, off, none⟩ : Addr).add j = ⟨b, off + j, none⟩ := by unfold Addr.add; split <;> simp_all
 rw [ea]
 obtain ⟨q, hq, e⟩ : ∃ q, q < n ∧ (j = q * 2 ∨ j = q * 2 + 1) := ⟨j / 2, by omega, by omega⟩
 obtain ⟨g1, g2⟩ := Zd5 h n q hq
 obtain ⟨c1, c2⟩ := hc q hq
 rcases e with rfl | rfl
 ·rw [hj] at g1; cases g1; exact c1
 ·rw [hj] at g2; cases g2; rw [← Nat.add_assoc]; exact c2
theorem Zid {m i : Nat} (h : i < m) : (madeCells #[Value.int .u64 0, .int .u64 0] m)[i]? = some (.int .u64 0) := by
 have e : ∀ k, (#[Value.int .u64 0, .int .u64 0] : Array Value)[k % 2]! = .int .u64 0 := fun k => by
  rcases Nat.mod_two_eq_zero_or_one k with h | h <;> rw [h] <;> rfl
 simp only [madeCells, Array.getElem?_map, Array.getElem?_range, h, if_true, Option.map_some]
 exact congrArg some (e i)
theorem Zie {h : Nat → Int} {n z : Nat} (hn : n ≤ z) : RowE ((recL h n) ++ (madeCells #[Value.int .u64 0, .int .u64 0] (z * 2)).toList.drop (n * 2)).toArray 2 (z * 2) z (reE (padK h n)) := by
 have hs : (madeCells #[Value.int .u64 0, .int .u64 0] (z * 2)).toList.length = z * 2 := by simp [size_madeCells]
 refine ⟨by simp [ZaQ, size_madeCells]; omega, fun i hi j hj => ?_⟩
 have hl := ZaQ h n
 have hj2 : j = 0 ∨ j = 1 := by omega
 unfold reE padK
 by_cases e : i < n
 ·obtain ⟨g1, g2⟩ := Zd5 h n i e
  rw [if_pos e]
  rcases hj2 with rfl | rfl
  ·simp only [List.getElem?_toArray]; rw [List.getElem?_append_left (by omega)]; exact g1
  ·simp only [List.getElem?_toArray]; rw [List.getElem?_append_left (by omega)]; exact g2
 ·rw [if_neg e]
  have hm : ∀ k, n * 2 ≤ k → k < z * 2 → ((recL h n) ++ (madeCells #[Value.int .u64 0, .int .u64 0] (z * 2)).toList.drop (n * 2)).toArray[k]? = some (.int .u64 0) := fun k h1 h2 => by
   simp only [List.getElem?_toArray]
   rw [List.getElem?_append_right (by omega), hl, List.getElem?_drop, show n * 2 + (k - n * 2) = k by omega, Array.getElem?_toList]
   exact Zid h2
  rcases hj2 with rfl | rfl
  ·rw [hm _ (by omega) (by omega)]; rfl
  ·rw [hm _ (by omega) (by omega)]; rfl
theorem Zco (h : Nat → Int) (x : Int) : ∀ m, ∃ k, k ≤ m ∧ (∀ i, i < k → h i ≤ x) ∧ (k < m → x ≤ h k)
 | 0 => ⟨0, Nat.le_refl _, fun i hi => absurd hi (Nat.not_lt_zero _), fun hi => absurd hi (Nat.not_lt_zero _)⟩
 | m + 1 => by
  obtain ⟨k, h1, h2, h3⟩ := Zco h x m
  rcases (by omega : k < m ∨ k = m) with hk | rfl
  ·exact ⟨k, by omega, h2, fun _ => h3 hk⟩
  ·rcases Int.le_total (h k) x with hx | hx
   ·refine ⟨k + 1, Nat.le_refl _, fun i hi => ?_, fun hi => absurd hi (Nat.lt_irrefl _)⟩
    rcases (by omega : i < k ∨ i = k) with h4 | rfl
    ·exact h2 i h4
    ·exact hx
   ·exact ⟨k, by omega, h2, fun _ => hx⟩
theorem Zc4 (f : Nat → Int) : ∀ m, ∃ h, IsSort f m h
 | 0 => ⟨f, IsSort.nil f f⟩
 | m + 1 => by
  obtain ⟨h, a⟩ := Zc4 f m
  obtain ⟨k, h1, h2, h3⟩ := Zco h (f m) m
  exact ⟨_, a.ins h1 h2 h3⟩
theorem Zhz {K n z : Nat} {h h0 : Nat → Int} (hz : 2 ^ K = z) (hn : n ≤ z) (hk : ∀ i, i < n → IsK (h i)) (a : IsSort h n h0) {i : Nat} (hi : i < n) : appN (padK h n) (stg K K) i = h0 i := by
 obtain ⟨s1, s2⟩ := Zht (K := K) (padK h n)
 obtain ⟨k, rfl⟩ : ∃ k, z = n + k := ⟨z - n, by omega⟩
 rw [hz] at s1 s2
 have a' : IsSort (padK h n) n h0 := ⟨a.srt, fun t => by rw [a.cnt]; exact JN fun i hi => by unfold padK; rw [if_pos hi]⟩
 exact a'.pad (M := 18446744073709551616) (fun i hi => (Zd4 hk i).2) (fun i hi => by unfold padK; rw [if_neg (by omega)]) s1 s2 hi
end Go.Proofs.YtjdiilkljgljkaaGreatDoor
