/- How many nodes come in; no conditions. -/
import Derived.Test.YtklnbfdoklcmfaaGraphA
import Derived.Test.YtklnbfdoklcmfaaAx12
namespace Go.Proofs.Ytklnbfdoklcmfaa.Plain
open Go.RowKit Go.Proofs.Ytklnbfdoklcmfaa.A Go.Proofs.YtklnbfdoklcmfaaW.PrintWords Go.Proofs.YtklnbfdoklcmfaaW.PrintLast Go.Proofs.YtklnbfdoklcmfaaW.PrintMore
set_option linter.unusedVariables false
set_option linter.unusedSimpArgs false
def fewG (l : List S35) : Bool := (l.all fun n => decide (n.f1.length ≤ 30) && decide (n.f2.length ≤ 30)) && decide (l.length ≤ 30)
theorem few10_l0 (l : List S35) (hl : l.length ≤ 9223372036854775806) (d : Nat) : ∀ (k i : Nat), l.length - i = d → i ≤ l.length → d + 1 ≤ k →
    fullerref10_Few.l0 k l (i : Int) = some (((l.drop i).all fun n => decide (n.f1.length ≤ 30) && decide (n.f2.length ≤ 30)) && decide (l.length ≤ 30)) := by
  induction d with
  | zero =>
    intro k i hd hi hk
    obtain ⟨k, rfl⟩ : ∃ q, k = q + 1 := ⟨k - 1, by omega⟩
    have e : decide ((l.length : Int) ≤ 30) = decide (l.length ≤ 30) := decide_eq_decide.mpr (by omega)
    rw [fullerref10_Few.l0, if_neg (by omega), List.drop_eq_nil_of_le (by omega), e]
    simp
  | succ d ih =>
    intro k i hd hi hk
    obtain ⟨k, rfl⟩ : ∃ q, k = q + 1 := ⟨k - 1, by omega⟩
    have hil : i < l.length := by omega
    have ih' := ih k (i + 1) (by omega) (by omega) (by omega)
    rw [fullerref10_Few.l0, if_pos (by omega), if_pos (by omega), rdN hil, List.drop_eq_getElem_cons hil, List.all_cons]
    by_cases h1 : ((l[i].f1.length : Int)) > 30
    · rw [if_pos h1, decide_eq_false (show ¬ l[i].f1.length ≤ 30 by omega)]
      simp
    · rw [if_neg h1, decide_eq_true (show l[i].f1.length ≤ 30 by omega)]
      by_cases h2 : ((l[i].f2.length : Int)) > 30
      · rw [if_pos h2, decide_eq_false (show ¬ l[i].f2.length ≤ 30 by omega)]
        simp
      · have e : wrap64 ((i : Int) + 1) = ((i + 1 : Nat) : Int) := by unfold wrap64; omega
        rw [if_neg h2, e, ih', decide_eq_true (show l[i].f2.length ≤ 30 by omega)]
        simp
theorem few10_f (l : List S35) (hl : l.length ≤ 9223372036854775806) (k : Nat) (hk : l.length + 1 ≤ k) : fullerref10_Few.f k l = some (fewG l) := by
  unfold fullerref10_Few.f fewG
  have := few10_l0 l hl l.length k 0 (by omega) (by omega) hk
  simpa using this
end Go.Proofs.Ytklnbfdoklcmfaa.Plain
