/- The calls whose answers the document fixes are answered so; no conditions. -/
import Derived.Test.YtfoffgbhfokccaaAx6
namespace Go.Proofs.Ytfoffgbhfokccaa.Plain
open Go.Proofs.Ytfoffgbhfokccaa.A Go.Proofs.YtfoffgbhfokccaaW.PrintWords
theorem awake_f (k : Nat) (hk : 100 ≤ k) : fullerlaw09_awake.f k = some true := at_rounds fullerlaw09_awake.mono hk (by decide +kernel)
end Go.Proofs.Ytfoffgbhfokccaa.Plain
