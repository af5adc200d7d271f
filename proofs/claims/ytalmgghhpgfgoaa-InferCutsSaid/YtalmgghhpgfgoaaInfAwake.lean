/- The calls whose answers the document fixes are answered so; no conditions. -/
import Derived.Test.YtalmgghhpgfgoaaAx10
namespace Go.Proofs.Ytalmgghhpgfgoaa.Plain
open Go.Proofs.Ytalmgghhpgfgoaa.A Go.Proofs.YtalmgghhpgfgoaaW.PrintWords
theorem awake_f (k : Nat) (hk : 300 ≤ k) : fullerlaw11_awake.f k = some true := at_rounds fullerlaw11_awake.mono hk (by decide +kernel)
end Go.Proofs.Ytalmgghhpgfgoaa.Plain
