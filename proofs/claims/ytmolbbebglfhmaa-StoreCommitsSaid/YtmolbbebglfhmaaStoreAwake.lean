/- The calls whose answers the document fixes are answered so; no conditions. -/
import Derived.Test.YtmolbbebglfhmaaAx10
namespace Go.Proofs.Ytmolbbebglfhmaa.Plain
open Go.Proofs.Ytmolbbebglfhmaa.A Go.Proofs.YtmolbbebglfhmaaW.PrintWords
theorem awake_f (k : Nat) (hk : 100 ≤ k) : fullerlaw18_awake.f k = some true := at_rounds fullerlaw18_awake.mono hk (by decide +kernel)
end Go.Proofs.Ytmolbbebglfhmaa.Plain
