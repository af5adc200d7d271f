/- For all numbers FixSigns answers true; no conditions. -/
import Derived.Test.YtkebkghhncelpaaAx10
import Derived.Test.YtkebkghhncelpaaFixE
namespace Go.Proofs.Ytkebkghhncelpaa.Pure
open Go.RowKit Go.Proofs.Ytkebkghhncelpaa.A Go.Proofs.YtkebkghhncelpaaW.PrintWords Go.Proofs.YtkebkghhncelpaaW.PrintLast Go.Proofs.YtkebkghhncelpaaW.PrintMore Go.Proofs.Ytkebkghhncelpaa.Plain
set_option linter.unusedVariables false
set_option linter.unusedSimpArgs false
theorem FixSigns : fullerlaw01_FixSigns.Pure := by
  intro a wa
  have ha : -9223372036854775808 ≤ a ∧ a ≤ 9223372036854775807 := by
    simp [Lit.wf, IntKind.min, IntKind.max, IntKind.signed, IntKind.bits] at wa
    omega
  refine ⟨200, ?_⟩
  unfold fullerlaw01_FixSigns.f
  obtain ⟨v, ev, fv⟩ := div_f ha.1 ha.2 (b := 4294967296) (by omega) (by omega) (by omega) 200 (by omega)
  obtain ⟨u, eu, fu⟩ := div_f ha.1 ha.2 (b := -4294967296) (by omega) (by omega) (by omega) 200 (by omega)
  have v1 : v = a := by
    have := fv.1 (by omega)
    omega
  have u1 : u = -a := by
    have := fu.2 (by omega)
    omega
  subst v1 u1
  have hz : ∃ d, fix_Div.f 200 0 v = some (0, d) ∧ (v = 0 → d = 11) ∧ (v ≠ 0 → d = 0) := by
    by_cases c : v = 0
    · refine ⟨11, ?_, fun _ => rfl, fun h => absurd c h⟩
      unfold fix_Div.f
      rw [if_pos c]
    · obtain ⟨z, ez, fz⟩ := div_f (a := 0) (b := v) (by omega) (by omega) ha.1 ha.2 c 200 (by omega)
      have z0 : z = 0 := fz.one c ⟨fun h => by omega, fun h => by omega⟩
      subst z0
      exact ⟨0, ez, fun h => absurd h c, fun _ => rfl⟩
  obtain ⟨d, ed, d1, d2⟩ := hz
  rw [awake_f _ (by omega), mul_f ha.1 ha.2 (by omega) (by omega), ev, mul_f ha.1 ha.2 (by omega) (by omega), neg_f ha.1 ha.2, mul_f ha.1 ha.2 (by omega) (by omega), ed, eu]
  have e1 : v * 4294967296 / 4294967296 = v := by omega
  have e2 : v * -4294967296 / 4294967296 = -v := by omega
  have e3 : v * 0 / 4294967296 = 0 := by omega
  rw [e1, e2, e3, inw_in ha.1 ha.2, inw_in (v := 0) (by omega) (by omega)]
  simp only [Option.bind_some, if_true]
  by_cases c : v = 0
  · simp [c, d1 c]
  · simp [c, d2 c]
end Go.Proofs.Ytkebkghhncelpaa.Pure
