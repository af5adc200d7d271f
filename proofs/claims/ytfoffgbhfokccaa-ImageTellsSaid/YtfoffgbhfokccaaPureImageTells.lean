/- For all bytes and tensors ImageTells answers true; no conditions but the sizes that the statement names. -/
import Derived.Test.YtfoffgbhfokccaaAx12
import Derived.Test.YtfoffgbhfokccaaImageB
import Derived.Test.YtfoffgbhfokccaaImageAwake
import Derived.Test.YtfoffgbhfokccaaImageR
namespace Go.Proofs.Ytfoffgbhfokccaa.Pure
open Go.RowKit Go.Proofs.Ytfoffgbhfokccaa.A Go.Proofs.YtfoffgbhfokccaaW.PrintWords Go.Proofs.YtfoffgbhfokccaaW.PrintLast Go.Proofs.YtfoffgbhfokccaaW.PrintMore Go.Proofs.Ytfoffgbhfokccaa.Plain
set_option linter.unusedVariables false
set_option linter.unusedSimpArgs false
theorem ImageTells : fullerlaw09_ImageTells.Pure := by
  intro b l s d hb hl hs hd
  have ho := octs_in hb.2
  have hm : l.length ≤ 9223372036854775806 := by omega
  refine ⟨l.length + 200000, ?_⟩
  unfold fullerlaw09_ImageTells.f
  rw [awake_f _ (by omega)]
  simp only [Option.bind_some]
  have out : fullerlaw09_ImageTells.j0 (l.length + 200000) b l true true s d = some true := by
    rw [show l.length + 200000 = (l.length + 199999) + 1 from rfl, fullerlaw09_ImageTells.j0, if_pos rfl]
  by_cases h1 : (b.length : Int) > 5000
  · rw [if_pos h1]; exact out
  · rw [if_neg h1, few09_f l 20 hm _ (by omega)]
    simp only [Option.bind_some]
    cases hf : few09 l 20 with
    | false => rw [if_neg (by simp)]; exact out
    | true =>
      rw [if_pos rfl, few_f]
      simp only [Option.bind_some]
      cases hf2 : fewT s d with
      | false => exact out
      | true =>
        obtain ⟨f1, f2⟩ := few09_iff hf
        rw [show l.length + 200000 = (l.length + 199999) + 1 from rfl, fullerlaw09_ImageTells.j0, if_neg (by simp), iput_f b s d (by omega) _ (by omega), riput_f b s d (by omega) _ (by omega)]
        simp only [Option.bind_some, if_true, beq_self_eq_true]
        rw [show l.length + 199999 = (l.length + 199998) + 1 from rfl, fullerlaw09_ImageTells.j1, iwr_f l (by omega) _ (by omega), riwr_f l (by omega) _ (by omega)]
        simp only [Option.bind_some, if_true, beq_self_eq_true]
        have hi := itake_small ho
        have hr := ird_small b.length b ho (by omega)
        rw [show l.length + 199998 = (l.length + 199997) + 1 from rfl, fullerlaw09_ImageTells.j2, itake_f b ho (by omega) _ (by omega), ritake_f b ho (by omega) _ (by omega), iread_f b ho (by omega) _ (by omega), riread_f b ho (by omega) _ (by omega)]
        simp only [Option.bind_some, if_true]
        rw [tsame_f _ _ _ (by omega) (by omega)]
        simp only [Option.bind_some, if_true]
        rw [same09_f _ _ 100 hr.2 _ (by omega) (by omega), sameL_refl]
        simp
end Go.Proofs.Ytfoffgbhfokccaa.Pure
