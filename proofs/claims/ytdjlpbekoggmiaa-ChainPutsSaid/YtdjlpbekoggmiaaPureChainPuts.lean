/- For all versions, stamps and tensors ChainPuts answers true; no conditions but the sizes that the statement names. -/
import Derived.Test.YtdjlpbekoggmiaaAx22
import Derived.Test.YtdjlpbekoggmiaaChainB
import Derived.Test.YtdjlpbekoggmiaaChainAwake
namespace Go.Proofs.Ytdjlpbekoggmiaa.Pure
open Go.RowKit Go.Proofs.Ytdjlpbekoggmiaa.A Go.Proofs.YtdjlpbekoggmiaaW.PrintWords Go.Proofs.YtdjlpbekoggmiaaW.PrintLast Go.Proofs.YtdjlpbekoggmiaaW.PrintMore Go.Proofs.Ytdjlpbekoggmiaa.Plain
theorem ChainPuts : fullerlaw17_ChainPuts.Pure := by
  intro l a s d at_ hl ha hs hd hat
  have hm : l.length ≤ 2513169434843 := by omega
  refine ⟨l.length + 5000, ?_⟩
  unfold fullerlaw17_ChainPuts.f
  rw [awake_f _ (by omega), fewV_f l (by omega) _ (by omega)]
  simp only [Option.bind_some]
  cases hf : fewV l with
  | false =>
    rw [if_neg (by simp), show l.length + 5000 = (l.length + 4999) + 1 from rfl, fullerlaw17_ChainPuts.j0, if_pos rfl]
  | true =>
    obtain ⟨hl30, hle⟩ := fewV_iff hf
    rw [if_pos rfl, few_f]
    simp only [Option.bind_some]
    cases ht : fewT s d with
    | false => rw [if_neg (by simp), show l.length + 5000 = (l.length + 4999) + 1 from rfl, fullerlaw17_ChainPuts.j0, if_pos rfl]
    | true =>
      have hsd : s.length ≤ 100 ∧ d.length ≤ 100 := by simpa [fewT] using ht
      rw [if_pos rfl, vchk_f l (by omega) _ (by omega)]
      simp only [Option.bind_some]
      rw [show l.length + 5000 = (l.length + 4999) + 1 from rfl, fullerlaw17_ChainPuts.j0]
      cases hv : vchk l with
      | false => rw [if_pos (by simp)]
      | true =>
        rw [if_neg (by simp), put_f l a s d (by omega) _ (by omega)]
        simp only [Option.bind_some]
        rcases pv_cases l a s d hv with ⟨hp, he⟩ | ⟨hp, hgood, hasc⟩
        · rw [if_neg he, if_pos trivial, hp, vsame_f l 100 hle _ (by omega) (by omega)]
          rfl
        · rw [hp]
          simp only
          have hvm := vchk_snoc hv hgood hasc
          have hb := bh_snoc (a := at_) (st := a) (s := s) (d := d) (vchk_iff.mp hvm).2.1
          rw [if_pos trivial, read_f _ at_ (by simp <;> omega) _ (by simp <;> omega), read_f l at_ (by omega) _ (by omega)]
          simp only [Option.bind_some, if_true]
          have hr := rdv_len l at_
          by_cases hge : at_ ≥ a
          · have hb1 := hb.1 hge
            rw [if_pos hge, rdv_ok hvm (by omega)]
            have e : (l ++ [(⟨a, ⟨s, d⟩⟩ : S41)])[bh (l ++ [⟨a, ⟨s, d⟩⟩]) at_ - 1]'(by have := bh_le (l ++ [(⟨a, ⟨s, d⟩⟩ : S41)]) at_; omega) = ⟨a, ⟨s, d⟩⟩ := by
              rw [List.getElem_append_right (by omega)]; simp
            rw [e]
            simp only [if_true]
            rw [tsame_f s d _ (by omega) (by omega)]
            simp only [Option.bind_some, if_true]
            rw [newer_f _ at_ (by simp <;> omega) _ (by simp <;> omega)]
            have hn : nw (l ++ [⟨a, ⟨s, d⟩⟩]) at_ = false := by simp [nw, hvm, hb1]
            rw [hn]
            simp only [Option.bind_some]
            rw [if_neg (by simp), vchk_f _ (by simp <;> omega) _ (by simp <;> omega), hvm]
            rfl
          · have hb2 := hb.2 (by omega)
            have hrr : rdv (l ++ [⟨a, ⟨s, d⟩⟩]) at_ = rdv l at_ := by
              by_cases h0 : bh l at_ = 0
              · rw [rdv_none h0, rdv_none (by omega)]
              · have hble := bh_le l at_
                have e : (l ++ [(⟨a, ⟨s, d⟩⟩ : S41)])[bh (l ++ [⟨a, ⟨s, d⟩⟩]) at_ - 1]'(by have := bh_le (l ++ [(⟨a, ⟨s, d⟩⟩ : S41)]) at_; omega) = l[bh l at_ - 1]'(by omega) := by
                  simp only [hb2]
                  rw [List.getElem_append_left (by omega)]
                rw [rdv_ok hv (by omega), rdv_ok hvm (by omega), e]
            rw [if_neg hge, hrr]
            simp only [beq_self_eq_true, if_true]
            rw [tsame_f _ _ _ (by omega) (by omega)]
            simp only [Option.bind_some, if_true]
            rw [newer_f _ at_ (by simp <;> omega) _ (by simp <;> omega)]
            have hn : nw (l ++ [⟨a, ⟨s, d⟩⟩]) at_ = true := by
              have := bh_le l at_
              simp [nw, hvm, hb2]; omega
            rw [hn]
            simp only [Option.bind_some, if_true]
            rw [vchk_f _ (by simp <;> omega) _ (by simp <;> omega), hvm]
            rfl
end Go.Proofs.Ytdjlpbekoggmiaa.Pure
