/- The calls whose answers the document fixes are answered so; no conditions. -/
import Derived.Test.YtoiaegbhnpddlaaAx8
namespace Go.Proofs.Ytoiaegbhnpddlaa.Plain
open Go.Proofs.Ytoiaegbhnpddlaa.A Go.Proofs.YtoiaegbhnpddlaaW.PrintWords
theorem awake_f (k : Nat) (hk : 100 ≤ k) : fullerlaw03_awake.f k = some true := at_rounds fullerlaw03_awake.mono hk (by decide +kernel)
end Go.Proofs.Ytoiaegbhnpddlaa.Plain
