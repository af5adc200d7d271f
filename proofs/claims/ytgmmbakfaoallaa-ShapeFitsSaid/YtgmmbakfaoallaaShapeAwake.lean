/- The calls whose answers the document fixes are answered so; no conditions. -/
import Derived.Test.YtgmmbakfaoallaaAx9
namespace Go.Proofs.Ytgmmbakfaoallaa.Plain
open Go.Proofs.Ytgmmbakfaoallaa.A Go.Proofs.YtgmmbakfaoallaaW.PrintWords
theorem awake_f (k : Nat) (hk : 60 ≤ k) : fullerlaw02_awake.f k = some true := at_rounds fullerlaw02_awake.mono hk (by decide +kernel)
end Go.Proofs.Ytgmmbakfaoallaa.Plain
