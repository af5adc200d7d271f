/- For all bytes and tensors ImageBack answers true; no conditions but the sizes that the statement names. -/
import Derived.Test.YtfoffgbhfokccaaAx29
import Derived.Test.YtfoffgbhfokccaaImageB
import Derived.Test.YtfoffgbhfokccaaImageAwake
namespace Go.Proofs.Ytfoffgbhfokccaa.Pure
open Go.RowKit Go.Proofs.Ytfoffgbhfokccaa.A Go.Proofs.YtfoffgbhfokccaaW.PrintWords Go.Proofs.YtfoffgbhfokccaaW.PrintLast Go.Proofs.YtfoffgbhfokccaaW.PrintMore Go.Proofs.Ytfoffgbhfokccaa.Plain
set_option linter.unusedVariables false
set_option linter.unusedSimpArgs false
theorem ImageBack : fullerlaw09_ImageBack.Pure := by
  intro b l hb hl
  have ho := octs_in hb.2
  have hw := wideT_in hl.2
  have hm : l.length ≤ 9223372036854775806 := by omega
  refine ⟨l.length + 200000, ?_⟩
  unfold fullerlaw09_ImageBack.f
  rw [awake_f _ (by omega)]
  simp only [Option.bind_some]
  have out : fullerlaw09_ImageBack.j0 (l.length + 200000) b l true true = some true := by
    rw [show l.length + 200000 = (l.length + 199999) + 1 from rfl, fullerlaw09_ImageBack.j0, if_pos rfl]
  by_cases h1 : (b.length : Int) > 5000
  · rw [if_pos h1]; exact out
  · rw [if_neg h1, few09_f l 20 hm _ (by omega)]
    simp only [Option.bind_some]
    cases hf : few09 l 20 with
    | false => exact out
    | true =>
      obtain ⟨f1, f2⟩ := few09_iff hf
      have hr := ird_small b.length b ho (by omega)
      rw [show l.length + 200000 = (l.length + 199999) + 1 from rfl, fullerlaw09_ImageBack.j0, if_neg (by simp), iwr_f l (by omega) _ (by omega), iwr_eq]
      simp only [Option.bind_some]
      have tail : ∀ (k : Nat), 100000 ≤ k → (image_Write.f k (ird b.length b).1 = some (if (ird b.length b).2 = 0 then (b, 0) else ([], 0))) := by
        intro k hk
        rw [iwr_f _ (by have := hr.1; omega) _ (by have := hr.1; omega), iwr_eq]
        by_cases h2 : (ird b.length b).2 = 0
        · obtain ⟨j1, j2, _⟩ := ird_inv _ _ ho (Nat.le_refl _) h2
          rw [if_pos j1, if_pos h2, j2, List.nil_append]
        · rw [ird_bad h2]; simp [allT, Plain.encs, h2]
      have fin : (if (ird b.length b).2 = 0 then (if (if (ird b.length b).2 = 0 then ((b, 0) : List Int × Int) else ([], 0)).2 = 0 then (some ((strOfNums (if (ird b.length b).2 = 0 then ((b, 0) : List Int × Int) else ([], 0)).1).toList == (strOfNums b).toList)) else (some false)) else (if (((ird b.length b).1).length : Int) = 0 then (some true) else (some false))) = some true := by
        by_cases h2 : (ird b.length b).2 = 0
        · simp [h2]
        · rw [if_neg h2, ird_bad h2]; simp
      cases ha : allT l with
      | false =>
        simp only [Bool.false_eq_true, if_false]
        rw [iread_f [] (fun x hx => by cases hx) (by simp) _ (by simp)]
        simp only [Option.bind_some]
        rw [iread_f b ho (by omega) _ (by omega)]
        simp only [Option.bind_some]
        rw [tail _ (by omega)]
        simp only [Option.bind_some]
        rw [if_neg (by simp), if_pos (by simp), if_pos trivial]
        exact fin
      | true =>
        have hel := encs_le ha
        have hoe := octs_encs ha
        simp only [if_true, List.nil_append]
        rw [iread_f (encs l) hoe (by omega) _ (by omega), ird_encs l _ ha hw (Nat.le_refl _)]
        simp only [Option.bind_some]
        rw [iread_f b ho (by omega) _ (by omega)]
        simp only [Option.bind_some]
        rw [tail _ (by omega)]
        simp only [Option.bind_some, if_true]
        rw [same09_f l l 100 f2 _ (by omega) (by omega), sameL_refl]
        simp only [Option.bind_some, if_true]
        exact fin
end Go.Proofs.Ytfoffgbhfokccaa.Pure
