/- For all versions, stamps and tensors ChainTells answers true; no conditions but the sizes that the statement names. -/
import Derived.Test.YtdjlpbekoggmiaaAx21
import Derived.Test.YtdjlpbekoggmiaaChainB
import Derived.Test.YtdjlpbekoggmiaaChainAwake
import Derived.Test.YtdjlpbekoggmiaaChainR
namespace Go.Proofs.Ytdjlpbekoggmiaa.Pure
open Go.RowKit Go.Proofs.Ytdjlpbekoggmiaa.A Go.Proofs.YtdjlpbekoggmiaaW.PrintWords Go.Proofs.YtdjlpbekoggmiaaW.PrintLast Go.Proofs.YtdjlpbekoggmiaaW.PrintMore Go.Proofs.Ytdjlpbekoggmiaa.Plain
theorem ChainTells : fullerlaw17_ChainTells.Pure := by
  intro l a s d hl ha hs hd
  have hm : l.length ≤ 2513169434843 := by omega
  refine ⟨l.length + 5000, ?_⟩
  unfold fullerlaw17_ChainTells.f
  rw [awake_f _ (by omega), fewV_f l (by omega) _ (by omega)]
  simp only [Option.bind_some]
  cases hf : fewV l with
  | false =>
    rw [if_neg (by simp), show l.length + 5000 = (l.length + 4999) + 1 from rfl, fullerlaw17_ChainTells.j0, if_pos rfl]
  | true =>
    obtain ⟨hl30, hle⟩ := fewV_iff hf
    rw [if_pos rfl, few_f]
    simp only [Option.bind_some]
    rw [show l.length + 5000 = (l.length + 4999) + 1 from rfl, fullerlaw17_ChainTells.j0]
    cases ht : fewT s d with
    | false => rw [if_pos (by simp)]
    | true =>
      have hsd : s.length ≤ 100 ∧ d.length ≤ 100 := by simpa [fewT] using ht
      have hr := rdv_len l a
      have hp := pv_len l a s d 100 hle hsd
      rw [if_neg (by simp), read_f l a (by omega) _ (by omega), rread_f l a (by omega) _ (by omega), put_f l a s d (by omega) _ (by omega), rput_f l a s d (by omega) _ (by omega)]
      simp only [Option.bind_some]
      rw [tsame_f _ _ _ (by omega) (by omega)]
      simp only [Option.bind_some, if_true, beq_self_eq_true]
      rw [vsame_f _ 100 hp.2 _ (by omega) (by omega)]
      simp only [Option.bind_some, if_true]
      have hT : ∀ v ∈ tr l a, v.f1.f0.length ≤ 100 ∧ v.f1.f1.length ≤ 100 := fun v hv => hle v (tr_sub l a hv)
      have hTl := tr_len l a
      rw [show l.length + 4999 = (l.length + 4998) + 1 from rfl, fullerlaw17_ChainTells.j1, vchk_f l (by omega) _ (by omega), rvchk_f l (by omega) _ (by omega)]
      simp only [Option.bind_some, if_true, beq_self_eq_true]
      rw [newer_f l a (by omega) _ (by omega), rnewer_f l a (by omega) _ (by omega)]
      simp only [Option.bind_some, if_true, beq_self_eq_true]
      rw [trim_f l a (by omega) _ (by omega), rtrim_f l a (by omega) _ (by omega)]
      simp only [Option.bind_some]
      rw [vsame_f _ 100 hT _ (by omega) (by omega)]
      rfl
end Go.Proofs.Ytdjlpbekoggmiaa.Pure
