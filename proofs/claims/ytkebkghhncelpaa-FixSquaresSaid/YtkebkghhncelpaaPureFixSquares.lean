/- For all numbers FixSquares answers true; no conditions. -/
import Derived.Test.YtkebkghhncelpaaAx9
import Derived.Test.YtkebkghhncelpaaFixB
namespace Go.Proofs.Ytkebkghhncelpaa.Pure
open Go.RowKit Go.Proofs.Ytkebkghhncelpaa.A Go.Proofs.YtkebkghhncelpaaW.PrintWords Go.Proofs.YtkebkghhncelpaaW.PrintLast Go.Proofs.YtkebkghhncelpaaW.PrintMore Go.Proofs.Ytkebkghhncelpaa.Plain
set_option linter.unusedVariables false
set_option linter.unusedSimpArgs false
theorem FixSquares : fullerlaw01_FixSquares.Pure := by
  intro n m wn wm
  have hn : 0 ≤ n ∧ n ≤ 4294967295 := by
    simp [Lit.wf, IntKind.min, IntKind.max, IntKind.signed, IntKind.bits] at wn
    omega
  have hm : 0 ≤ m ∧ m ≤ 65535 := by
    simp [Lit.wf, IntKind.min, IntKind.max, IntKind.signed, IntKind.bits] at wm
    omega
  refine ⟨100, ?_⟩
  unfold fullerlaw01_FixSquares.f
  rw [awake_f _ (by omega)]
  simp only [Option.bind_some]
  by_cases c : m > 30000
  · rw [if_pos c]
  · rw [if_neg c]
    have ew : wrap64 (wrap64 n + wrap64 (wrap64 m * 4294967296)) = n + m * 4294967296 := by
      rw [w64 (x := n) (by omega) (by omega), w64 (x := m) (by omega) (by omega), w64 (x := m * 4294967296) (by omega) (by omega), w64 (by omega) (by omega)]
    rw [ew]
    obtain ⟨a, ha⟩ : ∃ a, a = n + m * 4294967296 := ⟨_, rfl⟩
    rw [← ha]
    have ba : 0 ≤ a ∧ a ≤ 128853313847295 := by omega
    clear ew ha
    rw [mul_f (by omega) (by omega) (by omega) (by omega)]
    have mm := mul_le ba.1 ba.2 ba.1 ba.2
    have ei : inw (a * a / 4294967296) = (a * a / 4294967296, 0) := by
      unfold inw
      generalize a * a = S at mm ⊢
      rw [if_pos (by omega)]
    rw [ei]
    simp only [Option.bind_some]
    have bp : 0 ≤ a * a / 4294967296 ∧ a * a / 4294967296 ≤ 9223372036854775807 := by
      generalize a * a = S at mm ⊢
      omega
    obtain ⟨r, hr, r0, r1, r2, r3⟩ := sqrt_f bp.1 bp.2 100 (by omega)
    rw [hr]
    simp only [Option.bind_some, if_true]
    have le : r ≤ a := mul_lt_iff r0 (by generalize a * a = S at r2 ⊢; omega) ba.1
    rw [if_pos le, if_pos r0]
    by_cases c1 : a < 4294967296
    · rw [if_pos c1]
    · rw [if_neg c1, w64 (by omega) (by omega)]
      refine congrArg some (decide_eq_true ?_)
      by_cases c2 : r ≥ a - 1
      · exact c2
      · exfalso
        have h := Int.mul_le_mul (show r + 1 ≤ a - 1 by omega) (show r + 1 ≤ a - 1 by omega) (by omega) (by omega)
        have e : (a - 1) * (a - 1) = a * a - a - a + 1 := by rw [Int.sub_mul, Int.mul_sub]; omega
        rw [e] at h
        generalize a * a = S at *
        omega
end Go.Proofs.Ytkebkghhncelpaa.Pure
