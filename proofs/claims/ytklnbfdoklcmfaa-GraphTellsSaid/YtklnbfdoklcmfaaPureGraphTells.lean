/- For all graphs and nodes GraphTells answers true; no conditions but the sizes that the statement names. -/
import Derived.Test.YtklnbfdoklcmfaaAx17
import Derived.Test.YtklnbfdoklcmfaaAx11
import Derived.Test.YtklnbfdoklcmfaaGrF
import Derived.Test.YtklnbfdoklcmfaaGrR
namespace Go.Proofs.Ytklnbfdoklcmfaa.Pure
open Go.RowKit Go.Proofs.Ytklnbfdoklcmfaa.A Go.Proofs.YtklnbfdoklcmfaaW.PrintWords Go.Proofs.YtklnbfdoklcmfaaW.PrintLast Go.Proofs.YtklnbfdoklcmfaaW.PrintMore Go.Proofs.Ytklnbfdoklcmfaa.Plain
set_option linter.unusedVariables false
set_option linter.unusedSimpArgs false
theorem awake_f (k : Nat) (hk : 300 ≤ k) : fullerlaw10_awake.f k = some true := at_rounds fullerlaw10_awake.mono hk (by decide +kernel)
theorem GraphTells : fullerlaw10_GraphTells.Pure := by
  intro l a hl ha

  have hm : l.length ≤ 9223372036854775806 := by omega
  refine ⟨l.length + 10000, ?_⟩
  obtain ⟨K, hK⟩ : ∃ q, l.length + 10000 = q := ⟨_, rfl⟩
  unfold fullerlaw10_GraphTells.f
  rw [hK, awake_f _ (by omega), few10_f l hm _ (by omega)]
  simp only [Option.bind_some]
  cases hf : fewG l with
  | false => rw [if_neg (by decide)]
  | true =>
    have hb : l.length ≤ 24 ∨ gchk l = false := by
      cases hg : gchk l with
      | false => exact .inr rfl
      | true => exact .inl (gchk_iff.mp hg).le
    have b1 : (if gchk l = true then inpF l else ([], false)).1.length ≤ 10 := by
      cases hg : gchk l with
      | false => simp
      | true => rw [if_pos rfl]; exact inpF_len (gchk_iff.mp hg)
    have b2 : (if gchk l = true then prmF l else []).length ≤ 24 := by
      cases hg : gchk l with
      | false => simp
      | true => rw [if_pos rfl]; have := prmF_len l; have := (gchk_iff.mp hg).le; omega
    have b3 : (if gchk l = true then useG a 0 l else []).length ≤ 100 := by
      cases hg : gchk l with
      | false => simp
      | true => rw [if_pos rfl]; exact useG_len (gchk_iff.mp hg) a
    have b4 : (if gchk l = true then liveF l else []).length ≤ 24 := by
      cases hg : gchk l with
      | false => simp
      | true => rw [if_pos rfl]; have := liveF_len l; have := (gchk_iff.mp hg).le; omega
    have ea : aritV a = arity a := by
      unfold aritV arity
      cases gkind a <;> rfl
    rw [if_pos rfl, inputs_f, rinputs_f l K (by omega), show graph_Check.f l = some (gchk l) from rfl, rgchk_f l K (by omega), show graph_Arity.f a = some (aritV a) from rfl, rarity_f a K (by omega), ea]
    simp only [Option.bind_some]
    rw [same_f _ _ (by omega) K (by omega)]
    simp only [Option.bind_some, beq_self_eq_true, decide_true, if_true]
    obtain ⟨q, rfl⟩ : ∃ q, K = q + 1 := ⟨K - 1, by omega⟩
    rw [fullerlaw10_GraphTells.j0, if_pos rfl, if_pos rfl, params_f l q (by omega), rparams_f l q (by omega), Option.bind_some, Option.bind_some, same_f _ _ (by omega) q (by omega), Option.bind_some, if_pos (by simp),
      uses_f l a q (by omega), ruses_f l a q (by omega), Option.bind_some, Option.bind_some, same_f _ _ (by omega) q (by omega), Option.bind_some, if_pos (by simp), live_f, rlive_f l q (by omega), Option.bind_some, Option.bind_some, same_f _ _ (by omega) q (by omega), Option.bind_some]
    simp
end Go.Proofs.Ytklnbfdoklcmfaa.Pure
