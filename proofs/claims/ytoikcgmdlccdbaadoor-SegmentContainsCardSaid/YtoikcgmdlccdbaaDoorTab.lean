/- Of a list of laid variables the rest is laid, too. -/
import Derived.Lib.LaidTab
namespace Go.Proofs.YtoikcgmdlccdbaaDoor
theorem laid_tail {P : Program} {W : World} {x : String × DataW Unit} {rest : List (String × DataW Unit)} (h : laidMet P (x :: rest) W) : laidMet P rest W := by
  obtain ⟨ps, ⟨g', t', cs, fuel, p, q, hg', ht', hvar, hd, hr, hps⟩, hn, hc⟩ := h
  subst hps
  exact ⟨q, hr, (List.nodup_append.1 hn).2.1, fun b off hm => hc b off (List.mem_append.2 (.inr hm))⟩
end Go.Proofs.YtoikcgmdlccdbaaDoor
