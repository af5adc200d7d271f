/- For all numbers FixFloors answers true; no conditions. -/
import Derived.Test.YtkebkghhncelpaaAx7
import Derived.Test.YtkebkghhncelpaaFixB
namespace Go.Proofs.Ytkebkghhncelpaa.Pure
open Go.RowKit Go.Proofs.Ytkebkghhncelpaa.A Go.Proofs.YtkebkghhncelpaaW.PrintWords Go.Proofs.YtkebkghhncelpaaW.PrintLast Go.Proofs.YtkebkghhncelpaaW.PrintMore Go.Proofs.Ytkebkghhncelpaa.Plain
set_option linter.unusedVariables false
set_option linter.unusedSimpArgs false
theorem FixFloors : fullerlaw01_FixFloors.Pure := by
  intro a b c wa wb wc
  have ha : 0 ≤ a ∧ a ≤ 65535 := by
    simp [Lit.wf, IntKind.min, IntKind.max, IntKind.signed, IntKind.bits] at wa
    omega
  have hb : 0 ≤ b ∧ b ≤ 4294967295 := by
    simp [Lit.wf, IntKind.min, IntKind.max, IntKind.signed, IntKind.bits] at wb
    omega
  have hc : 0 ≤ c ∧ c ≤ 4294967295 := by
    simp [Lit.wf, IntKind.min, IntKind.max, IntKind.signed, IntKind.bits] at wc
    omega
  refine ⟨100, ?_⟩
  unfold fullerlaw01_FixFloors.f
  have et : Int.tmod c 65536 = c % 65536 := Int.tmod_eq_emod_of_nonneg hc.1
  rw [awake_f _ (by omega), et, w64 (x := a) (by omega) (by omega), w64 (x := b) (by omega) (by omega), w64 (x := b + 1) (by omega) (by omega), w64 (x := c % 65536) (by omega) (by omega), w64 (x := a * 4294967296) (by omega) (by omega)]
  obtain ⟨y, hy⟩ : ∃ y, y = b + 1 := ⟨_, rfl⟩
  obtain ⟨d, hd⟩ : ∃ d, d = c % 65536 := ⟨_, rfl⟩
  have by_ : 1 ≤ y ∧ y ≤ 4294967296 := by omega
  have bd : 0 ≤ d ∧ d ≤ 65535 := by omega
  rw [← hy, ← hd, div_small ha.1 (by omega) (by omega) (by omega), mul_f (by omega) (by omega) (by omega) (by omega)]
  have m := mul_le hb.1 hb.2 bd.1 bd.2
  have ei : inw (b * d / 4294967296) = (b * d / 4294967296, 0) := by
    unfold inw
    generalize b * d = S at m ⊢
    rw [if_pos (by omega)]
  rw [ei]
  simp only [Option.bind_some, if_true]
  have q0 := Int.ediv_nonneg (show (0 : Int) ≤ a * 4294967296 by omega) (show (0 : Int) ≤ y by omega)
  have q1 := Int.ediv_mul_le (a * 4294967296) (show y ≠ 0 by omega)
  have q2 := Int.lt_ediv_add_one_mul_self (a * 4294967296) (show (0 : Int) < y by omega)
  have q3 : a * 4294967296 / y ≤ a * 4294967296 := Int.ediv_le_self _ (by omega)
  generalize a * 4294967296 / y = q at q0 q1 q2 q3 ⊢
  have q4 : (q + 1) * y = q * y + y := by rw [Int.add_mul]; omega
  have q5 := Int.mul_nonneg q0 (show (0 : Int) ≤ y by omega)
  rw [q4] at q2
  rw [w64 (x := q + 1) (by omega) (by omega), q4]
  generalize q * y = Q at q1 q2 q5 ⊢
  rw [w64 (x := Q) (by omega) (by omega), w64 (x := Q + y) (by omega) (by omega), if_pos q1, if_pos q2]
  generalize b * d = S at m ⊢
  rw [w64 (x := S / 4294967296 * 4294967296) (by omega) (by omega), w64 (x := S) (by omega) (by omega), w64 (x := S / 4294967296 + 1) (by omega) (by omega), w64 (x := (S / 4294967296 + 1) * 4294967296) (by omega) (by omega), if_pos (by omega)]
  exact congrArg some (decide_eq_true (by omega))
end Go.Proofs.Ytkebkghhncelpaa.Pure
