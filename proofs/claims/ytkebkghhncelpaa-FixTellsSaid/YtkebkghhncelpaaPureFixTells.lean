/- For all numbers FixTells answers true; no conditions. -/
import Derived.Test.YtkebkghhncelpaaAx19
import Derived.Test.YtkebkghhncelpaaFixH
import Derived.Test.YtkebkghhncelpaaFixI
import Derived.Test.YtkebkghhncelpaaFixK
namespace Go.Proofs.Ytkebkghhncelpaa.Pure
open Go.RowKit Go.Proofs.Ytkebkghhncelpaa.A Go.Proofs.YtkebkghhncelpaaW.PrintWords Go.Proofs.YtkebkghhncelpaaW.PrintLast Go.Proofs.YtkebkghhncelpaaW.PrintMore Go.Proofs.Ytkebkghhncelpaa.Plain
set_option linter.unusedVariables false
set_option linter.unusedSimpArgs false
theorem FixTells : fullerlaw01_FixTells.Pure := by
  intro a b wa wb
  have ha : -9223372036854775808 ≤ a ∧ a ≤ 9223372036854775807 := by
    simp [Lit.wf, IntKind.min, IntKind.max, IntKind.signed, IntKind.bits] at wa
    omega
  have hb : -9223372036854775808 ≤ b ∧ b ≤ 9223372036854775807 := by
    simp [Lit.wf, IntKind.min, IntKind.max, IntKind.signed, IntKind.bits] at wb
    omega
  refine ⟨300, ?_⟩
  unfold fullerlaw01_FixTells.f
  have hd : ∃ v, fix_Div.f 300 a b = some v ∧ fullerref01_Div.f 300 a b = some v := by
    by_cases c : b = 0
    · exact ⟨(0, 11), by unfold fix_Div.f; rw [if_pos c], by unfold fullerref01_Div.f; rw [if_pos c]⟩
    · obtain ⟨v, e1, f1⟩ := div_f ha.1 ha.2 hb.1 hb.2 c 300 (by omega)
      obtain ⟨u, e2, f2⟩ := rdiv_f ha.1 ha.2 hb.1 hb.2 c 300 (by omega)
      rw [f2.one c f1] at e2
      exact ⟨_, e1, e2⟩
  have hs : ∃ v, fix_Sqrt.f 300 a = some v ∧ fullerref01_Sqrt.f 300 a = some v := by
    by_cases c : a < 0
    · exact ⟨(0, 12), by unfold fix_Sqrt.f; rw [if_pos c], by unfold fullerref01_Sqrt.f; rw [if_pos c]⟩
    · obtain ⟨v, e1, f1⟩ := sqrt_f (a := a) (by omega) ha.2 300 (by omega)
      obtain ⟨u, e2, f2⟩ := rsqrt_f (a := a) (by omega) ha.2 300 (by omega)
      have : u = v := Int.le_antisymm (root_mono f2 f1 (Int.le_refl a)) (root_mono f1 f2 (Int.le_refl a))
      rw [this] at e2
      exact ⟨_, e1, e2⟩
  obtain ⟨d, d1, d2⟩ := hd
  obtain ⟨s, s1, s2⟩ := hs
  obtain ⟨p, p1, p2⟩ := both_pow ha.1 ha.2 300 (by omega)
  obtain ⟨q, q1, q2⟩ := both_slope ha.1 ha.2 300 (by omega)
  rw [awake_f _ (by omega), add_f ha.1 ha.2 hb.1 hb.2, radd_f ha.1 ha.2 hb.1 hb.2, sub_f ha.1 ha.2 hb.1 hb.2, rsub_f ha.1 ha.2 hb.1 hb.2, mul_f ha.1 ha.2 hb.1 hb.2, rmul_f ha.1 ha.2 hb.1 hb.2 300 (by omega), d1, d2, neg_f ha.1 ha.2, rneg_f ha.1 ha.2, s1, s2, p1, p2, q1, q2]
  simp
end Go.Proofs.Ytkebkghhncelpaa.Pure
