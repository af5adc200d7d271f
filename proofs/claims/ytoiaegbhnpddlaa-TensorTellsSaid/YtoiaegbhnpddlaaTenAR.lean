/- Tensors, in the document's words; no conditions. -/
import Derived.Test.YtoiaegbhnpddlaaBaseR
import Derived.Test.YtoiaegbhnpddlaaAx9
namespace Go.Proofs.Ytoiaegbhnpddlaa.Plain
open Go.RowKit Go.Proofs.Ytoiaegbhnpddlaa.A Go.Proofs.YtoiaegbhnpddlaaW.PrintWords Go.Proofs.YtoiaegbhnpddlaaW.PrintLast Go.Proofs.YtoiaegbhnpddlaaW.PrintMore
set_option linter.unusedVariables false
set_option linter.unusedSimpArgs false
theorem rtcheck_f (s d : List Int) (k : Nat) (hk : 10 ≤ k) : fullerref03_Check.f k s d = some (tchk s d) := by
  unfold fullerref03_Check.f tchk
  rw [rcheck_f s k hk]
  simp only [Option.bind_some]
  cases h : chk s with
  | false => simp
  | true =>
    rw [if_pos rfl, rsize_f s k hk]
    simp only [Option.bind_some, Bool.true_and]
    by_cases h : (d.length : Int) = siz s <;> simp [h]
end Go.Proofs.Ytoiaegbhnpddlaa.Plain
