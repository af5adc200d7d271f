/- For all graphs GraphMore answers true; no conditions but the sizes that the statement names. -/
import Derived.Test.YtklnbfdoklcmfaaAx20
import Derived.Test.YtklnbfdoklcmfaaAx11
import Derived.Test.YtklnbfdoklcmfaaGrF
import Derived.Test.YtklnbfdoklcmfaaGrB
namespace Go.Proofs.Ytklnbfdoklcmfaa.Pure
open Go.RowKit Go.Proofs.Ytklnbfdoklcmfaa.A Go.Proofs.YtklnbfdoklcmfaaW.PrintWords Go.Proofs.YtklnbfdoklcmfaaW.PrintLast Go.Proofs.YtklnbfdoklcmfaaW.PrintMore Go.Proofs.Ytklnbfdoklcmfaa.Plain
set_option linter.unusedVariables false
set_option linter.unusedSimpArgs false
theorem awake_f (k : Nat) (hk : 300 ≤ k) : fullerlaw10_awake.f k = some true := at_rounds fullerlaw10_awake.mono hk (by decide +kernel)
theorem GraphMore : fullerlaw10_GraphMore.Pure := by
  intro l hl

  have hm : l.length ≤ 9223372036854775806 := by omega
  refine ⟨l.length + 10000, ?_⟩
  obtain ⟨K, hK⟩ : ∃ q, l.length + 10000 = q := ⟨_, rfl⟩
  unfold fullerlaw10_GraphMore.f
  rw [hK, awake_f _ (by omega), few10_f l hm _ (by omega)]
  simp only [Option.bind_some]
  obtain ⟨q, hq⟩ : ∃ q, K = q + 1 := ⟨K - 1, by omega⟩
  have out : fullerlaw10_GraphMore.j0 K l true true = some true := by
    rw [hq, fullerlaw10_GraphMore.j0, if_pos rfl]
  cases hf : fewG l with
  | false => rw [if_neg (by decide)]; exact out
  | true =>
    rw [if_pos rfl, show graph_Check.f l = some (gchk l) from rfl, Option.bind_some]
    cases hg : gchk l with
    | false => exact out
    | true =>
      have hG := gchk_iff.mp hg
      have h24 := hG.le
      have h0 := hG.pos
      rw [if_pos rfl]
      by_cases h23 : (l.length : Int) > 23
      · rw [decide_eq_true h23]; exact out
      · rw [decide_eq_false h23, hq, fullerlaw10_GraphMore.j0, if_neg (by decide)]
        have ew : wrap64 ((l.length : Int) - 1) = (l.length : Int) - 1 := w64 (by omega) (by omega)
        obtain ⟨m, hm'⟩ : ∃ m, m = l ++ [(⟨20, [(l.length : Int) - 1], []⟩ : S35)] := ⟨_, rfl⟩
        have hGm : GOk m := by rw [hm']; exact more_ok hG (by omega)
        have lm := liveF_len m
        have ll := liveF_len l
        have hml : m.length = l.length + 1 := by rw [hm']; simp
        simp only [Option.bind_some, List.nil_append, List.length_nil]
        rw [if_pos (by omega), if_pos (by omega), live_f, hg, if_pos rfl, Option.bind_some, if_pos (by omega), if_pos (by omega), if_pos trivial, ew, ← hm', show graph_Check.f m = some (gchk m) from rfl, gchk_iff.mpr hGm, Option.bind_some, if_pos rfl, live_f, gchk_iff.mpr hGm, if_pos rfl, Option.bind_some, same_f _ _ (by omega) q (by omega), Option.bind_some,
          if_pos (by rw [decide_eq_true_eq, hm']; exact more_live hG), uses_f m _ q (by omega), gchk_iff.mpr hGm, if_pos rfl, Option.bind_some, hm', more_use1 hG, same_f _ _ (by simp) q (by simp; omega), Option.bind_some, if_pos (by simp), ← hm', uses_f m _ q (by omega), gchk_iff.mpr hGm, if_pos rfl, Option.bind_some, hm', more_use2 hG]
        rfl
end Go.Proofs.Ytklnbfdoklcmfaa.Pure
