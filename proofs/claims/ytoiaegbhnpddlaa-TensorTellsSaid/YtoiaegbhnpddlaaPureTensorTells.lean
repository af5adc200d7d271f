/- For all tensors, shapes, indices and numbers TensorTells answers true; no conditions but the sizes that the statement names. -/
import Derived.Test.YtoiaegbhnpddlaaAx13
import Derived.Test.YtoiaegbhnpddlaaTenAwake
import Derived.Test.YtoiaegbhnpddlaaTenR
namespace Go.Proofs.Ytoiaegbhnpddlaa.Pure
open Go.RowKit Go.Proofs.Ytoiaegbhnpddlaa.A Go.Proofs.YtoiaegbhnpddlaaW.PrintWords Go.Proofs.YtoiaegbhnpddlaaW.PrintLast Go.Proofs.YtoiaegbhnpddlaaW.PrintMore Go.Proofs.Ytoiaegbhnpddlaa.Plain
set_option linter.unusedVariables false
set_option linter.unusedSimpArgs false
theorem wf64 {l : List Int} (h : ∀ x ∈ l, (Lit.int .i64 x).wf = true) : in64 l := fun x hx => by
  have := h x hx
  simp [Lit.wf, IntKind.min, IntKind.max, IntKind.signed, IntKind.bits] at this
  omega
theorem TensorTells : fullerlaw03_TensorTells.Pure := by
  intro s d g x n hs hd hg hx hn
  have hd64 := wf64 hd.2
  refine ⟨1000, ?_⟩
  unfold fullerlaw03_TensorTells.f
  rw [awake_f _ (by omega), few_f]
  simp only [Option.bind_some]
  have out : fullerlaw03_TensorTells.j0 1000 g x n true true s d = some true := by
    rw [show 1000 = 999 + 1 from rfl, fullerlaw03_TensorTells.j0, if_pos rfl]
  cases hf : fewT s d with
  | false => rw [if_neg (by simp)]; exact out
  | true =>
    rw [if_pos rfl]
    by_cases h1 : (g.length : Int) > 100
    · rw [if_pos h1]; exact out
    · rw [if_neg h1]
      by_cases h2 : (x.length : Int) > 100
      · rw [decide_eq_true h2]; exact out
      · rw [decide_eq_false h2, show 1000 = 999 + 1 from rfl, fullerlaw03_TensorTells.j0, if_neg (by simp)]
        have l1 := fullT_len g n
        have l2 := withT_len s d x n
        have l3 := spreadT_len s d g
        have l4 := foldT_len s d g
        rw [tfull_f _ _ _ (by omega), rfull_f _ _ _ (by omega)]
        simp only [Option.bind_some]
        rw [tsame_f _ _ _ (by omega) (by omega)]
        simp only [Option.bind_some, if_true]
        rw [twith_f _ _ _ _ _ (by omega), rwith_f _ _ _ _ _ (by omega)]
        simp only [Option.bind_some]
        rw [tsame_f _ _ _ (by omega) (by omega)]
        simp only [Option.bind_some, if_true]
        rw [tspread_f _ _ _ _ (by omega), rspread_f _ _ _ _ (by omega)]
        simp only [Option.bind_some]
        rw [tsame_f _ _ _ (by omega) (by omega)]
        simp only [Option.bind_some, if_true]
        rw [tfold_f _ _ _ hd64 _ (by omega), rfold_f _ _ _ hd64 _ (by omega), tat_f _ _ _ _ (by omega), rat_f _ _ _ _ (by omega)]
        simp only [Option.bind_some, if_true]
        rw [tsame_f _ _ _ (by omega) (by omega)]
        simp only [Option.bind_some, if_true]
        rw [tcheck_f _ _ _ (by omega), rtcheck_f _ _ _ (by omega)]
        simp
end Go.Proofs.Ytoiaegbhnpddlaa.Pure
