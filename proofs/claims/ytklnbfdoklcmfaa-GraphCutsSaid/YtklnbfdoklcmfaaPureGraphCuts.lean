/- For all graphs and numbers GraphCuts answers true; no conditions but the sizes that the statement names. -/
import Derived.Test.YtklnbfdoklcmfaaAx18
import Derived.Test.YtklnbfdoklcmfaaAx11
import Derived.Test.YtklnbfdoklcmfaaGrF
import Derived.Test.YtklnbfdoklcmfaaGrC
namespace Go.Proofs.Ytklnbfdoklcmfaa.Pure
open Go.RowKit Go.Proofs.Ytklnbfdoklcmfaa.A Go.Proofs.YtklnbfdoklcmfaaW.PrintWords Go.Proofs.YtklnbfdoklcmfaaW.PrintLast Go.Proofs.YtklnbfdoklcmfaaW.PrintMore Go.Proofs.Ytklnbfdoklcmfaa.Plain
set_option linter.unusedVariables false
set_option linter.unusedSimpArgs false
theorem awake_f (k : Nat) (hk : 300 ≤ k) : fullerlaw10_awake.f k = some true := at_rounds fullerlaw10_awake.mono hk (by decide +kernel)
theorem GraphCuts : fullerlaw10_GraphCuts.Pure := by
  intro l a1 a2 hl ha hb
  have ha' : 0 ≤ a1 ∧ a1 ≤ 255 := by
    simp [Lit.wf, IntKind.min, IntKind.max, IntKind.signed, IntKind.bits] at ha
    omega

  have hm : l.length ≤ 9223372036854775806 := by omega
  refine ⟨l.length + 10000, ?_⟩
  obtain ⟨K, hK⟩ : ∃ q, l.length + 10000 = q := ⟨_, rfl⟩
  unfold fullerlaw10_GraphCuts.f
  rw [hK, awake_f _ (by omega), few10_f l hm _ (by omega)]
  simp only [Option.bind_some]
  obtain ⟨q, hq⟩ : ∃ q, K = q + 1 := ⟨K - 1, by omega⟩
  have out : fullerlaw10_GraphCuts.j0 K l a1 a2 true true = some true := by
    rw [hq, fullerlaw10_GraphCuts.j0, if_pos rfl]
  cases hf : fewG l with
  | false => rw [if_neg (by decide)]; exact out
  | true =>
    rw [if_pos rfl, show graph_Check.f l = some (gchk l) from rfl, Option.bind_some]
    cases hg : gchk l with
    | false => exact out
    | true =>
      have hG := gchk_iff.mp hg
      show fullerlaw10_GraphCuts.j0 K l a1 a2 true false = some true
      have h24 := hG.le
      have h0 := hG.pos
      obtain ⟨c, e, hc⟩ : ∃ c : Nat, wrap64 (1 + Int.tmod (wrap64 a1) (l.length : Int)) = (c : Int) ∧ 0 < c ∧ c ≤ l.length := by
        rw [w64 (x := a1) (by omega) (by omega)]
        have m0 := Int.tmod_nonneg (l.length : Int) ha'.1
        have m1 := Int.tmod_lt_of_pos a1 (show (0 : Int) < l.length by omega)
        generalize Int.tmod a1 (l.length : Int) = m at m0 m1
        refine ⟨(1 + m).toNat, ?_, by omega, by omega⟩
        rw [w64 (by omega) (by omega)]
        omega
      have hp := prmF_len (l.take c)
      rw [List.length_take] at hp
      have hGt := take_ok hG c hc.1
      rw [hq, fullerlaw10_GraphCuts.j0, if_neg (by decide), if_neg (by omega), e]
      clear e
      rw [if_pos (by omega), if_pos (by omega), Int.toNat_natCast, params_f _ q (by omega), gchk_iff.mpr hGt, if_pos rfl, Option.bind_some, params_f _ q (by omega), hg, if_pos rfl, Option.bind_some]
      exact cuts_l0 l hG a1 a2 ha' c hc (prmF (l.take c)).length q 0 (by omega) (by omega) (by omega)
end Go.Proofs.Ytklnbfdoklcmfaa.Pure
