/- For all numbers FixRoots answers true; no conditions. -/
import Derived.Test.YtkebkghhncelpaaAx8
import Derived.Test.YtkebkghhncelpaaFixB
namespace Go.Proofs.Ytkebkghhncelpaa.Pure
open Go.RowKit Go.Proofs.Ytkebkghhncelpaa.A Go.Proofs.YtkebkghhncelpaaW.PrintWords Go.Proofs.YtkebkghhncelpaaW.PrintLast Go.Proofs.YtkebkghhncelpaaW.PrintMore Go.Proofs.Ytkebkghhncelpaa.Plain
set_option linter.unusedVariables false
set_option linter.unusedSimpArgs false
theorem FixRoots : fullerlaw01_FixRoots.Pure := by
  intro a b wa wb
  have ha : 0 ≤ a ∧ a ≤ 4294967295 := by
    simp [Lit.wf, IntKind.min, IntKind.max, IntKind.signed, IntKind.bits] at wa
    omega
  have hb : 0 ≤ b ∧ b ≤ 4294967295 := by
    simp [Lit.wf, IntKind.min, IntKind.max, IntKind.signed, IntKind.bits] at wb
    omega
  refine ⟨100, ?_⟩
  unfold fullerlaw01_FixRoots.f
  obtain ⟨l, hl⟩ : ∃ l, l = mn a b := ⟨_, rfl⟩
  obtain ⟨g, hg⟩ : ∃ g, g = mx a b := ⟨_, rfl⟩
  rw [← hl, ← hg]
  have bl : 0 ≤ l ∧ l ≤ 4294967295 ∧ l ≤ g ∧ g ≤ 4294967295 := by
    subst hl hg
    unfold mn mx
    split <;> split <;> omega
  clear hl hg
  rw [awake_f _ (by omega), w64 (x := l) (by omega) (by omega), w64 (x := g) (by omega) (by omega)]
  obtain ⟨r, hr, Rr⟩ := sqrt_f (a := l) (by omega) (by omega) 100 (by omega)
  obtain ⟨s, hs, Rs⟩ := sqrt_f (a := g) (by omega) (by omega) 100 (by omega)
  rw [hr, hs]
  simp only [Option.bind_some, u64w, if_true]
  have rs := root_mono Rr Rs bl.2.2.1
  obtain ⟨r0, r1, r2, r3⟩ := Rr
  have r4 : r ≤ 4294967295 := by
    by_cases c : r ≤ 4294967295
    · exact c
    · have := Int.mul_le_mul (show (4294967296 : Int) ≤ r by omega) (show (4294967296 : Int) ≤ r by omega) (by omega) (by omega)
      omega
  have e1 : r % 18446744073709551616 = r := by omega
  have e2 : (r + 1) % 18446744073709551616 = r + 1 := by omega
  have e3 : l % 18446744073709551616 = l := by omega
  have e4 : l * 4294967296 % 18446744073709551616 = l * 4294967296 := by omega
  have e5 : r * r % 18446744073709551616 = r * r := by
    have := mul_le r0 r4 r0 r4
    generalize r * r = S at this ⊢
    omega
  rw [e1, e2, e3, e4, e5, if_neg (by omega), if_neg (by omega), if_neg (by omega), if_pos r2]
  by_cases c : r + 1 = 4294967296
  · rw [if_pos c]
  · rw [if_neg c]
    have e6 : (r + 1) * (r + 1) % 18446744073709551616 = (r + 1) * (r + 1) := by
      have := mul_le (a := r + 1) (b := r + 1) (A := 4294967295) (B := 4294967295) (by omega) (by omega) (by omega) (by omega)
      generalize (r + 1) * (r + 1) = S at this ⊢
      omega
    rw [e6]
    exact congrArg some (decide_eq_true r3)
end Go.Proofs.Ytkebkghhncelpaa.Pure
