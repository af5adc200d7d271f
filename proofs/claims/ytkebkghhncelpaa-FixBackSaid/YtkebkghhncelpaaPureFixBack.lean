/- For all numbers FixBack answers true; no conditions. -/
import Derived.Test.YtkebkghhncelpaaAx12
import Derived.Test.YtkebkghhncelpaaFixB
namespace Go.Proofs.Ytkebkghhncelpaa.Pure
open Go.RowKit Go.Proofs.Ytkebkghhncelpaa.A Go.Proofs.YtkebkghhncelpaaW.PrintWords Go.Proofs.YtkebkghhncelpaaW.PrintLast Go.Proofs.YtkebkghhncelpaaW.PrintMore Go.Proofs.Ytkebkghhncelpaa.Plain
set_option linter.unusedVariables false
set_option linter.unusedSimpArgs false
theorem FixBack : fullerlaw01_FixBack.Pure := by
  intro a b wa wb
  have ha : -9223372036854775808 ≤ a ∧ a ≤ 9223372036854775807 := by
    simp [Lit.wf, IntKind.min, IntKind.max, IntKind.signed, IntKind.bits] at wa
    omega
  have hb : -9223372036854775808 ≤ b ∧ b ≤ 9223372036854775807 := by
    simp [Lit.wf, IntKind.min, IntKind.max, IntKind.signed, IntKind.bits] at wb
    omega
  refine ⟨100, ?_⟩
  unfold fullerlaw01_FixBack.f
  have r1 := inw_rng (a + b)
  have r2 := inw_rng (a - b)
  rw [awake_f _ (by omega), add_f ha.1 ha.2 hb.1 hb.2, add_f hb.1 hb.2 ha.1 ha.2, mul_f ha.1 ha.2 hb.1 hb.2, mul_f hb.1 hb.2 ha.1 ha.2, sub_f ha.1 ha.2 hb.1 hb.2, Int.add_comm b a, Int.mul_comm b a]
  simp only [Option.bind_some]
  rw [sub_f r1.1 r1.2 hb.1 hb.2, add_f r2.1 r2.2 hb.1 hb.2]
  simp only [Option.bind_some]
  clear r1 r2
  by_cases h1 : -9223372036854775808 ≤ a + b ∧ a + b ≤ 9223372036854775807
  · have e1 : inw (a + b - b) = (a, 0) := by rw [show a + b - b = a by omega, inw_in ha.1 ha.2]
    by_cases h2 : -9223372036854775808 ≤ a - b ∧ a - b ≤ 9223372036854775807
    · have e2 : inw (a - b + b) = (a, 0) := by rw [show a - b + b = a by omega, inw_in ha.1 ha.2]
      simp [inw_in h1.1 h1.2, inw_in h2.1 h2.2, e1, e2, inw_in ha.1 ha.2]
    · simp [inw_in h1.1 h1.2, inw_out h2, e1, inw_in ha.1 ha.2]
  · by_cases h2 : -9223372036854775808 ≤ a - b ∧ a - b ≤ 9223372036854775807
    · have e2 : inw (a - b + b) = (a, 0) := by rw [show a - b + b = a by omega, inw_in ha.1 ha.2]
      simp [inw_out h1, inw_in h2.1 h2.2, e2, inw_in ha.1 ha.2]
    · simp [inw_out h1, inw_out h2]
end Go.Proofs.Ytkebkghhncelpaa.Pure
