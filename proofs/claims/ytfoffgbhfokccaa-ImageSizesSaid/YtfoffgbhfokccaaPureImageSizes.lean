/- For all tensors and numbers ImageSizes answers true; no conditions but the sizes that the statement names. -/
import Derived.Test.YtfoffgbhfokccaaAx30
import Derived.Test.YtfoffgbhfokccaaImageB
import Derived.Test.YtfoffgbhfokccaaImageAwake
namespace Go.Proofs.Ytfoffgbhfokccaa.Pure
open Go.RowKit Go.Proofs.Ytfoffgbhfokccaa.A Go.Proofs.YtfoffgbhfokccaaW.PrintWords Go.Proofs.YtfoffgbhfokccaaW.PrintLast Go.Proofs.YtfoffgbhfokccaaW.PrintMore Go.Proofs.Ytfoffgbhfokccaa.Plain
set_option linter.unusedVariables false
set_option linter.unusedSimpArgs false
theorem ImageSizes : fullerlaw09_ImageSizes.Pure := by
  intro s d c hs hd hc
  have hdw := wide_in hd.2
  have hcr : 0 ≤ c ∧ c ≤ 65535 := by
    simp [Lit.wf, IntKind.min, IntKind.max, IntKind.signed, IntKind.bits] at hc
    omega
  obtain ⟨K, hK⟩ : ∃ K : Nat, 199999 ≤ K := ⟨199999, Nat.le_refl _⟩
  refine ⟨K + 1, ?_⟩
  unfold fullerlaw09_ImageSizes.f
  rw [awake_f _ (by omega), few_f]
  simp only [Option.bind_some]
  have out : fullerlaw09_ImageSizes.j0 (K + 1) c true true s d = some true := by
    rw [fullerlaw09_ImageSizes.j0, if_pos rfl]
  cases hf : fewT s d with
  | false => rw [if_neg (by simp)]; exact out
  | true =>
    rw [if_pos rfl, tcheck_f s d _ (by omega)]
    simp only [Option.bind_some]
    cases ht : tchk s d with
    | false => exact out
    | true =>
      have hl := tchk_len ht
      have hel := encT_length s d
      have hoe := octs_encT ht
      rw [fullerlaw09_ImageSizes.j0, if_neg (by simp), iput_f [] s d (by simp) _ (by omega)]
      obtain ⟨p, hp⟩ : ∃ p, p = iput [] s d := ⟨_, rfl⟩
      have hp1 : p.1 = encT s d := by rw [hp, iput, if_pos ht]; rfl
      have hp2 : p.2 = 0 := by rw [hp, iput, if_pos ht]
      rw [← hp, Option.bind_some, if_pos hp2, hp1]
      have hw : wrap64 (wrap64 (1 + (s.length : Int)) + wrap64 (8 * (d.length : Int))) = ((encT s d).length : Int) := by
        rw [w64 (x := 1 + (s.length : Int)) (by omega) (by omega), w64 (x := 8 * (d.length : Int)) (by omega) (by omega), w64 (by omega) (by omega), hel]
        omega
      rw [hw, if_pos rfl, if_neg (by omega)]
      obtain ⟨q, hq, hq2⟩ : ∃ q : Nat, Int.tmod (wrap64 c) ((encT s d).length : Int) = (q : Int) ∧ q < (encT s d).length := by
        rw [w64 (by omega) (by omega), Int.tmod_eq_emod_of_nonneg hcr.1]
        have h1 := Int.emod_nonneg c (show ((encT s d).length : Int) ≠ 0 by omega)
        have h2 := Int.emod_lt_of_pos c (show 0 < ((encT s d).length : Int) by omega)
        exact ⟨(c % ((encT s d).length : Int)).toNat, by omega, by omega⟩
      rw [hq, if_pos (by omega), if_pos (by omega), Int.toNat_natCast]
      have hop : octs ((encT s d).take q) := octs_take hoe q
      rw [itake_f _ hop (by simp only [List.length_take]; omega) _ (by omega)]
      simp only [Option.bind_some]
      have hbad : ¬ (itake ((encT s d).take q)).2.2.2 = 0 := by
        intro h
        obtain ⟨i1, i2, i3, i4⟩ := itake_inv hop h
        have e1 : encT s d = encT (itake ((encT s d).take q)).1 (itake ((encT s d).take q)).2.1 ++ ((itake ((encT s d).take q)).2.2.1 ++ (encT s d).drop q) := by
          rw [← List.append_assoc, ← i2, List.take_append_drop]
        have e2 := itake_enc ((itake ((encT s d).take q)).2.2.1 ++ (encT s d).drop q) i1 i4
        rw [← e1] at e2
        have e3 := itake_enc [] ht hdw
        rw [List.append_nil] at e3
        rw [e3] at e2
        have e4 : ((itake ((encT s d).take q)).2.2.1 ++ (encT s d).drop q) = [] := by
          simp only [Prod.mk.injEq] at e2
          exact e2.2.2.1.symm
        have e5 := congrArg List.length e4
        simp only [List.length_append, List.length_drop, List.length_nil] at e5
        omega
      rw [itake_err hbad]
      simp
end Go.Proofs.Ytfoffgbhfokccaa.Pure
