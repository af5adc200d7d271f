/- For all tensors and bytes ImageJoins answers true; no conditions but the sizes that the statement names. -/
import Derived.Test.YtfoffgbhfokccaaAx31
import Derived.Test.YtfoffgbhfokccaaImageB
import Derived.Test.YtfoffgbhfokccaaImageAwake
namespace Go.Proofs.Ytfoffgbhfokccaa.Pure
open Go.RowKit Go.Proofs.Ytfoffgbhfokccaa.A Go.Proofs.YtfoffgbhfokccaaW.PrintWords Go.Proofs.YtfoffgbhfokccaaW.PrintLast Go.Proofs.YtfoffgbhfokccaaW.PrintMore Go.Proofs.Ytfoffgbhfokccaa.Plain
set_option linter.unusedVariables false
set_option linter.unusedSimpArgs false
theorem ImageJoins : fullerlaw09_ImageJoins.Pure := by
  intro a b s d t ha hb hs hd ht
  have hot := octs_in ht.2
  have hdw := wide_in hd.2
  refine ⟨a.length + b.length + 200000, ?_⟩
  have hma : a.length ≤ 9223372036854775806 := by omega
  have hmb : b.length ≤ 9223372036854775806 := by omega
  unfold fullerlaw09_ImageJoins.f
  rw [awake_f _ (by omega), few09_f a 20 hma _ (by omega)]
  simp only [Option.bind_some]
  have out : fullerlaw09_ImageJoins.j0 (a.length + b.length + 200000) a b t true true s d = some true := by
    rw [show a.length + b.length + 200000 = (a.length + b.length + 199999) + 1 from rfl, fullerlaw09_ImageJoins.j0, if_pos rfl]
  cases hfa : few09 a 20 with
  | false => rw [if_neg (by simp)]; exact out
  | true =>
    rw [if_pos rfl, few09_f b 20 hmb _ (by omega)]
    simp only [Option.bind_some]
    cases hfb : few09 b 20 with
    | false => rw [if_neg (by simp)]; exact out
    | true =>
      rw [if_pos rfl, few_f]
      simp only [Option.bind_some]
      cases hft : fewT s d with
      | false => rw [if_neg (by simp)]; exact out
      | true =>
        rw [if_pos rfl]
        by_cases h1 : (t.length : Int) > 1000
        · rw [decide_eq_true h1]; exact out
        · have fa := (few09_iff hfa).1
          have fb := (few09_iff hfb).1
          rw [decide_eq_false h1, show a.length + b.length + 200000 = (a.length + b.length + 199999) + 1 from rfl, fullerlaw09_ImageJoins.j0, if_neg (by simp), iwr_f a (by omega) _ (by omega), iwr_f b (by omega) _ (by omega)]
          simp only [Option.bind_some, List.length_nil, Nat.zero_add, List.nil_append]
          rw [if_pos (by omega), if_pos (by omega), iwr_f (a ++ b) (by simp only [List.length_append]; omega) _ (by simp only [List.length_append]; omega)]
          simp only [Option.bind_some]
          rw [iput_f [] s d (by simp) _ (by omega)]
          simp only [Option.bind_some, List.length_nil, Nat.zero_add, List.nil_append]
          have hpl : (iput [] s d).1.length ≤ 1000 := by
            unfold iput
            split
            · rename_i h; exact encT_le h
            · simp
          have hpo : octs (iput [] s d).1 := by
            unfold iput
            split
            · rename_i h; exact octs_encT h
            · intro x hx; cases hx
          rw [if_pos (by omega), if_pos (by omega), itake_f _ (octs_append hpo hot) (by simp only [List.length_append]; omega) _ (by omega)]
          simp only [Option.bind_some]
          have fin : (if (iput [] s d).2 = 0 then (if (itake ((iput [] s d).1 ++ t)).2.2.2 = 0 then ((fullerref03_Same.f (a.length + b.length + 199999) (itake ((iput [] s d).1 ++ t)).1 (itake ((iput [] s d).1 ++ t)).2.1 s d).bind fun t484 => (if t484 = true then (some ((strOfNums (itake ((iput [] s d).1 ++ t)).2.2.1).toList == (strOfNums t).toList)) else (none))) else (none)) else (some true)) = some true := by
            unfold iput
            cases htc : tchk s d with
            | false => simp
            | true =>
              have hl := tchk_len htc
              simp only [if_true, List.nil_append]
              rw [itake_enc t htc hdw]
              simp only [if_true]
              rw [tsame_f s d _ (by omega) (by omega)]
              simp
          rw [iwr_eq, iwr_eq, iwr_eq, allT_append, Plain.encs_append]
          cases haa : allT a with
          | false =>
            simp only [Bool.false_eq_true, if_false, Bool.false_and]
            rw [if_neg (by simp), if_pos trivial, if_pos trivial]
            exact fin
          | true =>
            cases hbb : allT b with
            | false =>
              simp only [Bool.false_eq_true, if_false, if_true, Bool.and_false]
              rw [if_neg (by simp)]
              exact fin
            | true =>
              have l1 := encs_le haa
              have l2 := encs_le hbb
              simp only [if_true, Bool.and_self, List.nil_append]
              rw [if_pos (by rw [strOfNums_size, strOfNums_size]; omega), if_pos (by rw [← str_append])]
              exact fin
end Go.Proofs.Ytfoffgbhfokccaa.Pure
