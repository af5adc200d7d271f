/- For all tensors ImageApart answers true; no conditions but the sizes that the statement names. -/
import Derived.Test.YtfoffgbhfokccaaAx32
import Derived.Test.YtfoffgbhfokccaaImageB
import Derived.Test.YtfoffgbhfokccaaImageAwake
namespace Go.Proofs.Ytfoffgbhfokccaa.Pure
open Go.RowKit Go.Proofs.Ytfoffgbhfokccaa.A Go.Proofs.YtfoffgbhfokccaaW.PrintWords Go.Proofs.YtfoffgbhfokccaaW.PrintLast Go.Proofs.YtfoffgbhfokccaaW.PrintMore Go.Proofs.Ytfoffgbhfokccaa.Plain
set_option linter.unusedVariables false
set_option linter.unusedSimpArgs false
theorem ImageApart : fullerlaw09_ImageApart.Pure := by
  intro a b ha hb
  have wa := wideT_in ha.2
  have wb := wideT_in hb.2
  refine ⟨a.length + b.length + 200000, ?_⟩
  have hma : a.length ≤ 9223372036854775806 := by omega
  have hmb : b.length ≤ 9223372036854775806 := by omega
  unfold fullerlaw09_ImageApart.f
  rw [awake_f _ (by omega), few09_f a 20 hma _ (by omega)]
  simp only [Option.bind_some]
  have out : fullerlaw09_ImageApart.j0 (a.length + b.length + 200000) a b true true = some true := by
    rw [show a.length + b.length + 200000 = (a.length + b.length + 199999) + 1 from rfl, fullerlaw09_ImageApart.j0, if_pos rfl]
  cases hfa : few09 a 20 with
  | false => rw [if_neg (by simp)]; exact out
  | true =>
    rw [if_pos rfl, few09_f b 20 hmb _ (by omega)]
    simp only [Option.bind_some]
    cases hfb : few09 b 20 with
    | false => exact out
    | true =>
      obtain ⟨fa, fa2⟩ := few09_iff hfa
      have fb := (few09_iff hfb).1
      rw [show a.length + b.length + 200000 = (a.length + b.length + 199999) + 1 from rfl, fullerlaw09_ImageApart.j0, if_neg (by simp), iwr_f a (by omega) _ (by omega), iwr_f b (by omega) _ (by omega), iwr_eq, iwr_eq]
      simp only [Option.bind_some, if_true]
      cases haa : allT a with
      | false => simp
      | true =>
        cases hbb : allT b with
        | false => simp
        | true =>
          simp only [if_true, List.nil_append]
          rw [same09_f a b 100 fa2 _ (by omega) (by omega)]
          simp only [Option.bind_some]
          congr 1
          by_cases h : a = b
          · subst h; simp [sameL_refl]
          · have h1 : sameL a b = false := by
              cases hs : sameL a b with
              | false => rfl
              | true => exact absurd (sameL_iff.mp hs) h
            have h2 : ¬ (strOfNums (encs a)).toList = (strOfNums (encs b)).toList := by
              intro e
              have e1 := str_inj (octs_encs haa) (octs_encs hbb) e
              have e2 := ird_encs a _ haa wa (Nat.le_refl _)
              have e3 := ird_encs b _ hbb wb (Nat.le_refl _)
              rw [e1, e3] at e2
              exact h (congrArg Prod.fst e2).symm
            rw [h1]
            simp [h2]
end Go.Proofs.Ytfoffgbhfokccaa.Pure
