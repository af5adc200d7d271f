/- For all graphs GraphNames answers true; no conditions but the sizes that the statement names. -/
import Derived.Test.YtklnbfdoklcmfaaAx20
import Derived.Test.YtklnbfdoklcmfaaAx11
import Derived.Test.YtklnbfdoklcmfaaGrF
import Derived.Test.YtklnbfdoklcmfaaGrN
namespace Go.Proofs.Ytklnbfdoklcmfaa.Pure
open Go.RowKit Go.Proofs.Ytklnbfdoklcmfaa.A Go.Proofs.YtklnbfdoklcmfaaW.PrintWords Go.Proofs.YtklnbfdoklcmfaaW.PrintLast Go.Proofs.YtklnbfdoklcmfaaW.PrintMore Go.Proofs.Ytklnbfdoklcmfaa.Plain
set_option linter.unusedVariables false
set_option linter.unusedSimpArgs false
theorem awake_f (k : Nat) (hk : 300 ≤ k) : fullerlaw10_awake.f k = some true := at_rounds fullerlaw10_awake.mono hk (by decide +kernel)
theorem GraphNames : fullerlaw10_GraphNames.Pure := by
  intro l hl

  have hm : l.length ≤ 9223372036854775806 := by omega
  refine ⟨l.length + 10000, ?_⟩
  obtain ⟨K, hK⟩ : ∃ q, l.length + 10000 = q := ⟨_, rfl⟩
  unfold fullerlaw10_GraphNames.f
  rw [hK, awake_f _ (by omega), few10_f l hm _ (by omega)]
  simp only [Option.bind_some]
  obtain ⟨q, hq⟩ : ∃ q, K = q + 1 := ⟨K - 1, by omega⟩
  have out : fullerlaw10_GraphNames.j0 K l true true = some true := by
    rw [hq, fullerlaw10_GraphNames.j0, if_pos rfl]
  cases hf : fewG l with
  | false => rw [if_neg (by decide)]; exact out
  | true =>
    rw [if_pos rfl, show graph_Check.f l = some (gchk l) from rfl, Option.bind_some]
    cases hg : gchk l with
    | false => exact out
    | true =>
      have hG := gchk_iff.mp hg
      show fullerlaw10_GraphNames.j0 K l true false = some true
      have h24 := hG.le
      rw [hq, fullerlaw10_GraphNames.j0, if_neg (by decide), params_f l q (by omega), inputs_f, hg, if_pos rfl, if_pos rfl, Option.bind_some, Option.bind_some]
      have := names_l0 l hG l.length q 0 0 (by omega) (by omega) (by omega) (by omega) (by rw [inp_count, List.drop_zero, Nat.zero_add])
      exact this
end Go.Proofs.Ytklnbfdoklcmfaa.Pure
