/- For all graphs and nodes GraphShifts answers true; no conditions but the sizes that the statement names. -/
import Derived.Test.YtklnbfdoklcmfaaAx21
import Derived.Test.YtklnbfdoklcmfaaAx11
import Derived.Test.YtklnbfdoklcmfaaGrF
import Derived.Test.YtklnbfdoklcmfaaGrS
namespace Go.Proofs.Ytklnbfdoklcmfaa.Pure
open Go.RowKit Go.Proofs.Ytklnbfdoklcmfaa.A Go.Proofs.YtklnbfdoklcmfaaW.PrintWords Go.Proofs.YtklnbfdoklcmfaaW.PrintLast Go.Proofs.YtklnbfdoklcmfaaW.PrintMore Go.Proofs.Ytklnbfdoklcmfaa.Plain
set_option linter.unusedVariables false
set_option linter.unusedSimpArgs false
theorem awake_f (k : Nat) (hk : 300 ≤ k) : fullerlaw10_awake.f k = some true := at_rounds fullerlaw10_awake.mono hk (by decide +kernel)
theorem GraphShifts : fullerlaw10_GraphShifts.Pure := by
  intro l a1 hl hb
  have ha : -9223372036854775808 ≤ a1 ∧ a1 ≤ 9223372036854775807 := by
    simp [Lit.wf, IntKind.min, IntKind.max, IntKind.signed, IntKind.bits] at hb
    omega

  have hm : l.length ≤ 9223372036854775806 := by omega
  refine ⟨l.length + 10000, ?_⟩
  obtain ⟨K, hK⟩ : ∃ q, l.length + 10000 = q := ⟨_, rfl⟩
  unfold fullerlaw10_GraphShifts.f
  rw [hK, awake_f _ (by omega), few10_f l hm _ (by omega)]
  simp only [Option.bind_some]
  obtain ⟨q, hq⟩ : ∃ q, K = q + 1 := ⟨K - 1, by omega⟩
  have out : fullerlaw10_GraphShifts.j0 K l a1 true true = some true := by
    rw [hq, fullerlaw10_GraphShifts.j0, if_pos rfl]
  cases hf : fewG l with
  | false => rw [if_neg (by decide)]; exact out
  | true =>
    rw [if_pos rfl, show graph_Check.f l = some (gchk l) from rfl, Option.bind_some]
    cases hg : gchk l with
    | false => exact out
    | true =>
      have hG := gchk_iff.mp hg
      show fullerlaw10_GraphShifts.j0 K l a1 true false = some true
      have h24 := hG.le
      rw [hq, fullerlaw10_GraphShifts.j0, if_neg (by decide), Option.bind_some, if_pos (by simp; omega), List.nil_append]
      have := shifts_l0 l hG a1 ha l.length q 0 (by omega) (by omega) (by omega)
      rw [List.take_zero, show shL l.length ([] : List S35) = [] from rfl, List.append_nil] at this
      exact this
end Go.Proofs.Ytklnbfdoklcmfaa.Pure
