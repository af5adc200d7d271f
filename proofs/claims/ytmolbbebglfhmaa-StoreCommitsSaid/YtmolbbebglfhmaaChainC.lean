/- Versions that are trimmed, cut, and put one behind the other, in plain words; no conditions. -/
import Derived.Test.YtmolbbebglfhmaaChainB
namespace Go.Proofs.Ytmolbbebglfhmaa.Plain
open Go.RowKit Go.Proofs.Ytmolbbebglfhmaa.A Go.Proofs.YtmolbbebglfhmaaW.PrintWords Go.Proofs.YtmolbbebglfhmaaW.PrintLast Go.Proofs.YtmolbbebglfhmaaW.PrintMore
theorem bh_mono : ∀ (l : List S74) {a b : Int}, a ≤ b → bh l a ≤ bh l b
  | [], _, _, _ => by simp [bh]
  | v :: r, a, b, h => by
    rw [bh_cons, bh_cons]
    have := bh_mono r h
    by_cases h1 : v.f0 ≤ a
    · rw [if_pos h1, if_pos (by omega)]; omega
    · rw [if_neg h1]; omega
end Go.Proofs.Ytmolbbebglfhmaa.Plain
