/- The calls whose answers the document fixes are answered so; no conditions. -/
import Derived.Test.YtdjlpbekoggmiaaAx11
namespace Go.Proofs.Ytdjlpbekoggmiaa.Plain
open Go.Proofs.Ytdjlpbekoggmiaa.A Go.Proofs.YtdjlpbekoggmiaaW.PrintWords
theorem awake_f (k : Nat) (hk : 100 ≤ k) : fullerlaw17_awake.f k = some true := at_rounds fullerlaw17_awake.mono hk (by decide +kernel)
end Go.Proofs.Ytdjlpbekoggmiaa.Plain
