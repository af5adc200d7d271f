/- For all commands ScriptApart answers true; no conditions but the sizes that the statement names. -/
import Derived.Test.YtjcgadfmhfhbgaaAx30
import Derived.Test.YtjcgadfmhfhbgaaScrD
namespace Go.Proofs.Ytjcgadfmhfhbgaa.Pure
open Go.RowKit Go.Proofs.Ytjcgadfmhfhbgaa.A Go.Proofs.YtjcgadfmhfhbgaaW.PrintWords Go.Proofs.YtjcgadfmhfhbgaaW.PrintLast Go.Proofs.Ytjcgadfmhfhbgaa.Plain
set_option linter.unusedVariables false
set_option linter.unusedSimpArgs false
theorem ScriptApart : fullerlaw23_ScriptApart.Pure := by
  intro l0 l1 h0 h1
  obtain ⟨K, hK⟩ : ∃ K, K = l0.length + l1.length + 140737490000000 := ⟨_, rfl⟩
  have hl0 := h0.1
  have hl1 := h1.1
  refine ⟨K + 1, ?_⟩
  unfold fullerlaw23_ScriptApart.f
  rw [awake_f _ (by omega), few21_f l0 100 140737488351232 (few_M h0.2) (by omega) (by omega) _ (by omega), few21_f l1 100 140737488351232 (few_M h1.2) (by omega) (by omega) _ (by omega)]
  simp only [Option.bind_some]
  have out : fullerlaw23_ScriptApart.j0 (K + 1) l0 l1 true true = some true := by rw [fullerlaw23_ScriptApart.j0, if_pos rfl]
  cases hf0 : (l0.all fewC && decide ((l0.length : Int) ≤ 100)) with
  | false => rw [if_neg (by decide)]; exact out
  | true =>
    rw [if_pos rfl]
    cases hf1 : (l1.all fewC && decide ((l1.length : Int) ≤ 100)) with
    | false => exact out
    | true =>
      obtain ⟨s0, m0⟩ := few_all hf0
      obtain ⟨s1, m1⟩ := few_all hf1
      rw [Bool.not_true, fullerlaw23_ScriptApart.j0, if_neg (by decide)]
      rcases write_f l0 (fun x hx => (s0 x hx).2) (by omega) K (by omega) with ⟨e0, o0⟩ | ⟨e0, o0⟩
      · rcases write_f l1 (fun x hx => (s1 x hx).2) (by omega) K (by omega) with ⟨e1, o1⟩ | ⟨e1, o1⟩
        · rw [e0, e1]
          simp only [Option.bind_some, if_true]
          obtain ⟨q, hq, hqi⟩ := same23_f l0 l1 (by omega) (fun x hx => (s0 x hx).1) K (by omega) (by omega)
          rw [hq]
          simp only [Option.bind_some]
          by_cases c : l0 = l1
          · rw [hqi.mpr c, c]
            simp
          · have hq0 : q = false := by
              cases q with
              | false => rfl
              | true => exact absurd (hqi.mp rfl) c
            rw [hq0]
            have hne : ¬ (strOfNums (encCs l0)).toList = (strOfNums (encCs l1)).toList := fun e =>
              c (encs_inj (fun x hx => ⟨o0 x hx, wideC_in (h0.2 x hx), (s0 x hx).2⟩) (fun x hx => ⟨o1 x hx, wideC_in (h1.2 x hx), (s1 x hx).2⟩) (by omega) (by omega) (str_inj (octs_encCs o0) (octs_encCs o1) e))
            rw [beq_eq_false_iff_ne.mpr hne]
            rfl
        · rw [e0, e1]; rfl
      · rcases write_f l1 (fun x hx => (s1 x hx).2) (by omega) K (by omega) with ⟨e1, o1⟩ | ⟨e1, o1⟩
        · rw [e0, e1]; rfl
        · rw [e0, e1]; rfl
end Go.Proofs.Ytjcgadfmhfhbgaa.Pure
