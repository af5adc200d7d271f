/- The calls whose answers the document fixes are answered so; no conditions. -/
import Derived.Test.YtchmfdaebohplaaAx6
namespace Go.Proofs.Ytchmfdaebohplaa.Plain
open Go.Proofs.Ytchmfdaebohplaa.A Go.Proofs.YtchmfdaebohplaaW.PrintWords
theorem awake_f (k : Nat) (hk : 100 ≤ k) : fullerlaw12_awake.f k = some true := at_rounds fullerlaw12_awake.mono hk (by decide +kernel)
end Go.Proofs.Ytchmfdaebohplaa.Plain
