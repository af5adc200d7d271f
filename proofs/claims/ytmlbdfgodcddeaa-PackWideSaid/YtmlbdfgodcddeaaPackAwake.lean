/- The calls whose answers the document fixes are answered so; no conditions. -/
import Derived.Test.YtmlbdfgodcddeaaAx11
namespace Go.Proofs.Ytmlbdfgodcddeaa.Plain
open Go.Proofs.Ytmlbdfgodcddeaa.A Go.Proofs.YtmlbdfgodcddeaaW.PrintWords
theorem awake_f (k : Nat) (hk : 60 ≤ k) : fullerlaw08_awake.f k = some true := at_rounds fullerlaw08_awake.mono hk (by decide +kernel)
end Go.Proofs.Ytmlbdfgodcddeaa.Plain
