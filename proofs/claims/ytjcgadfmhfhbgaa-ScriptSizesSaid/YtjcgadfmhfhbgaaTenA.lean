/- Tensors, in plain words; no conditions. -/
import Derived.Test.YtjcgadfmhfhbgaaBase
import Derived.Test.YtjcgadfmhfhbgaaAx3
import Derived.Test.YtjcgadfmhfhbgaaAx15
import Derived.Test.YtjcgadfmhfhbgaaAx13
namespace Go.Proofs.Ytjcgadfmhfhbgaa.Plain
open Go.RowKit Go.Proofs.Ytjcgadfmhfhbgaa.A Go.Proofs.YtjcgadfmhfhbgaaW.PrintWords Go.Proofs.YtjcgadfmhfhbgaaW.PrintLast Go.Proofs.YtjcgadfmhfhbgaaW.PrintMore
set_option linter.unusedVariables false
set_option linter.unusedSimpArgs false
def tchk (s d : List Int) : Bool := chk s && decide ((d.length : Int) = siz s)
theorem tcheck_f (s d : List Int) (k : Nat) (hk : 5 ≤ k) : tensor_Check.f k s d = some (tchk s d) := by
  unfold tensor_Check.f tchk
  rw [check_f s k hk]
  simp only [Option.bind_some]
  cases h : chk s with
  | false => simp
  | true =>
    rw [if_pos rfl, size_f s k hk]
    simp only [Option.bind_some, Bool.true_and]
    by_cases h : (d.length : Int) = siz s <;> simp [h]
theorem tchk_len {s d : List Int} (h : tchk s d = true) : s.length ≤ 3 ∧ d.length ≤ 64 := by
  simp only [tchk, Bool.and_eq_true, decide_eq_true_eq] at h
  have := siz_le s
  exact ⟨(chk_iff.mp h.1).1, by omega⟩
def fewT (s d : List Int) : Bool := decide (s.length ≤ 100) && decide (d.length ≤ 100)
theorem few_f (s d : List Int) : fullerref03_Few.f s d = some (fewT s d) := by
  unfold fullerref03_Few.f fewT
  by_cases h : (s.length : Int) ≤ 100
  · rw [if_pos h, decide_eq_true (show s.length ≤ 100 by omega), Bool.true_and]
    congr 1
    exact decide_eq_decide.mpr (by omega)
  · rw [if_neg h, decide_eq_false (show ¬ s.length ≤ 100 by omega), Bool.false_and]
end Go.Proofs.Ytjcgadfmhfhbgaa.Plain
