/- For all tensors and shapes TensorSpreads answers true; no conditions but the sizes that the statement names. -/
import Derived.Test.YtoiaegbhnpddlaaAx15
import Derived.Test.YtoiaegbhnpddlaaTenAwake
import Derived.Test.YtoiaegbhnpddlaaTenC
namespace Go.Proofs.Ytoiaegbhnpddlaa.Pure
open Go.RowKit Go.Proofs.Ytoiaegbhnpddlaa.A Go.Proofs.YtoiaegbhnpddlaaW.PrintWords Go.Proofs.YtoiaegbhnpddlaaW.PrintLast Go.Proofs.YtoiaegbhnpddlaaW.PrintMore Go.Proofs.Ytoiaegbhnpddlaa.Plain
set_option linter.unusedVariables false
set_option linter.unusedSimpArgs false
theorem wf64 {l : List Int} (h : ∀ x ∈ l, (Lit.int .i64 x).wf = true) : in64 l := fun x hx => by
  have := h x hx
  simp [Lit.wf, IntKind.min, IntKind.max, IntKind.signed, IntKind.bits] at this
  omega
theorem TensorSpreads : fullerlaw03_TensorSpreads.Pure := by
  intro s d g u hs hd hg hu
  have hd64 := wf64 hd.2
  refine ⟨1000, ?_⟩
  unfold fullerlaw03_TensorSpreads.f
  rw [awake_f _ (by omega), few_f]
  simp only [Option.bind_some]
  have out : fullerlaw03_TensorSpreads.j0 1000 g u true true s d = some true := by
    rw [show 1000 = 999 + 1 from rfl, fullerlaw03_TensorSpreads.j0, if_pos rfl]
  cases hf : fewT s d with
  | false => rw [if_neg (by simp)]; exact out
  | true =>
    rw [if_pos rfl]
    by_cases h1 : (g.length : Int) > 100
    · rw [if_pos h1]; exact out
    · rw [if_neg h1]
      by_cases h2 : (u.length : Int) > 100
      · rw [if_pos h2]; exact out
      · rw [if_neg h2, tcheck_f _ _ _ (by omega)]
        simp only [Option.bind_some]
        cases ht : tchk s d with
        | false => exact out
        | true =>
          obtain ⟨hc, hl⟩ := tchk_iff.mp ht
          have hl64 := tchk_len ht
          rw [show 1000 = 999 + 1 from rfl, fullerlaw03_TensorSpreads.j0, if_neg (by simp), tspread_f _ _ _ _ (by omega), tfold_f _ _ _ hd64 _ (by omega), tspread_f _ _ _ _ (by omega), tspread_f _ _ _ _ (by omega), spread_self ht, fold_self ht hd64]
          simp only [Option.bind_some]
          rw [tspread_f _ _ _ _ (by omega)]
          simp only [Option.bind_some, if_true]
          rw [tsame_f _ _ _ (by omega) (by omega)]
          simp only [Option.bind_some, if_true]
          by_cases ha : (spreadT s d g).2.2 = 0
          · rw [if_pos ha]
            by_cases hb : (spreadT (spreadT s d g).1 (spreadT s d g).2.1 u).2.2 = 0
            · rw [if_pos hb]
              obtain ⟨-, hf1⟩ := spread_ok.mp ha
              obtain ⟨-, hf2⟩ := spread_ok.mp hb
              have hg1 : (spreadT s d g).1 = g := by rw [spread_val ht hf1]
              rw [hg1] at hf2
              have e2 := spread_two ht hf1 hf2
              have l3 := spreadT_len s d u
              rw [e2] at hb ⊢
              rw [if_pos hb, tsame_f _ _ _ (by omega) (by omega)]
              simp only [Option.bind_some, if_true]
              obtain ⟨d1, d2⟩ := siz_dvd hf1
              have p1 := siz_pos hc
              have hgl : ((spreadT s d g).2.1.length : Int) = siz g := by
                rw [spread_val ht hf1]
                simp
                omega
              rw [hgl, hl, if_pos d1, if_neg (by omega), d2]
              rfl
            · rw [if_neg hb]
          · rw [if_neg ha]
end Go.Proofs.Ytoiaegbhnpddlaa.Pure
