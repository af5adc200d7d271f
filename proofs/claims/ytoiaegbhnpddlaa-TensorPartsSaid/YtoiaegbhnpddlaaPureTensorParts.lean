/- For all tensors and shapes TensorParts answers true; no conditions but the sizes that the statement names. -/
import Derived.Test.YtoiaegbhnpddlaaAx17
import Derived.Test.YtoiaegbhnpddlaaTenAwake
import Derived.Test.YtoiaegbhnpddlaaTenC
namespace Go.Proofs.Ytoiaegbhnpddlaa.Pure
open Go.RowKit Go.Proofs.Ytoiaegbhnpddlaa.A Go.Proofs.YtoiaegbhnpddlaaW.PrintWords Go.Proofs.YtoiaegbhnpddlaaW.PrintLast Go.Proofs.YtoiaegbhnpddlaaW.PrintMore Go.Proofs.Ytoiaegbhnpddlaa.Plain
set_option linter.unusedVariables false
set_option linter.unusedSimpArgs false
theorem wf64 {l : List Int} (h : ∀ x ∈ l, (Lit.int .i64 x).wf = true) : in64 l := fun x hx => by
  have := h x hx
  simp [Lit.wf, IntKind.min, IntKind.max, IntKind.signed, IntKind.bits] at this
  omega
theorem TensorParts : fullerlaw03_TensorParts.Pure := by
  intro s d g u hs hd hg hu
  have hd64 := wf64 hd.2
  refine ⟨1000, ?_⟩
  unfold fullerlaw03_TensorParts.f
  rw [awake_f _ (by omega), few_f]
  simp only [Option.bind_some]
  have out : fullerlaw03_TensorParts.j0 1000 g u true true s d = some true := by
    rw [show 1000 = 999 + 1 from rfl, fullerlaw03_TensorParts.j0, if_pos rfl]
  cases hf : fewT s d with
  | false => rw [if_neg (by simp)]; exact out
  | true =>
    have hf2 : s.length ≤ 100 ∧ d.length ≤ 100 := by simpa [fewT] using hf
    rw [if_pos rfl]
    by_cases h1 : (g.length : Int) > 100
    · rw [if_pos h1]; exact out
    rw [if_neg h1]
    by_cases h2 : (u.length : Int) > 100
    · rw [decide_eq_true h2]; exact out
    rw [decide_eq_false h2, show 1000 = 999 + 1 from rfl, fullerlaw03_TensorParts.j0, if_neg (by simp)]
    -- behind the rounds
    have fin : ∀ k, 500 ≤ k → k ≤ 5000 → (∀ x ∈ d, -1099511627776 ≤ x ∧ x ≤ 1099511627776) → ((tensor_Fold.f k s d g).bind fun bt563 => ((tensor_Fold.f k bt563.1 bt563.2.1 u).bind fun bt571 => ((tensor_Fold.f k s d u).bind fun bt579 => (if bt563.2.2 = 0 then (fullerlaw03_TensorParts.j2 k true bt579.2.2 (bt571.2.2 != 0) bt571.1 bt571.2.1 bt579.1 bt579.2.1) else (fullerlaw03_TensorParts.j2 k true bt579.2.2 true bt571.1 bt571.2.1 bt579.1 bt579.2.1))))) = some true := by
      intro k hk hk2 hsm
      rw [tfold_f _ _ _ hd64 _ (by omega)]
      simp only [Option.bind_some]
      rw [tfold_f _ _ _ (foldT_in64 s d g) _ (by omega), tfold_f _ _ _ hd64 _ (by omega)]
      simp only [Option.bind_some]
      obtain ⟨k, rfl⟩ : ∃ m, k = m + 1 := ⟨k - 1, by omega⟩
      by_cases ha : (foldT s d g).2.2 = 0
      · rw [if_pos ha]
        by_cases hb : (foldT (foldT s d g).1 (foldT s d g).2.1 u).2.2 = 0
        · rw [hb, show ((0 : Int) != 0) = false from rfl, fullerlaw03_TensorParts.j2, if_neg (by simp), if_pos rfl]
          obtain ⟨ht, hf1, he1⟩ := fold_ok ha
          have e1 := fold_val ht hf1 he1
          rw [e1] at hb ⊢
          obtain ⟨ht2, hf2', he2⟩ := fold_ok hb
          have e2 := fold_val ht2 hf2' he2
          obtain ⟨e3, e4⟩ := fold_two ht hf1 hf2' (M := 1099511627776) (by omega) (by omega) hsm
          have e5 := fold_val ht (fits_trans hf2' hf1) e3
          rw [e5]
          simp only [if_true]
          simp only at e2
          rw [e2, e4]
          have l := foldT_len s d u
          rw [e5] at l
          simp only at l
          rw [tsame_f _ _ _ (by simp only; omega) (by omega)]
          simp only [Option.bind_some, if_true]
          rw [tcheck_f _ _ _ (by omega), fold_tchk (fits_trans hf2' hf1)]
          rfl
        · rw [show ((foldT (foldT s d g).1 (foldT s d g).2.1 u).2.2 != 0) = true from bne_iff_ne.mpr hb, fullerlaw03_TensorParts.j2, if_pos rfl]
      · rw [if_neg ha, fullerlaw03_TensorParts.j2, if_pos rfl]
    have rounds : ∀ (e k i : Nat), d.length - i = e → i ≤ d.length → e + 510 ≤ k → k ≤ 5000 → (∀ x ∈ d.take i, -1099511627776 ≤ x ∧ x ≤ 1099511627776) → fullerlaw03_TensorParts.l0 k g u true (i : Int) s d = some true := by
      intro e
      induction e with
      | zero =>
        intro k i he hi hk hk2 hx
        obtain ⟨k, rfl⟩ : ∃ m, k = m + 1 := ⟨k - 1, by omega⟩
        rw [fullerlaw03_TensorParts.l0, if_neg (by omega)]
        rw [List.take_of_length_le (by omega)] at hx
        exact fin k (by omega) (by omega) hx
      | succ e ih =>
        intro k i he hi hk hk2 hx
        obtain ⟨k, rfl⟩ : ∃ m, k = m + 1 := ⟨k - 1, by omega⟩
        have hil : i < d.length := by omega
        rw [fullerlaw03_TensorParts.l0, if_pos (by omega), if_pos (by omega), rd_lt hil]
        by_cases c1 : d[i] < -1099511627776
        · rw [if_pos c1]
        rw [if_neg c1]
        by_cases c2 : d[i] > 1099511627776
        · rw [if_pos c2]
        rw [if_neg c2, w64 (by omega) (by omega)]
        refine ih k (i + 1) (by omega) (by omega) (by omega) (by omega) ?_
        rw [List.take_succ_eq_append_getElem hil]
        intro x hx'
        rcases List.mem_append.mp hx' with h | h
        · exact hx x h
        · rw [List.mem_singleton.mp h]; omega
    exact rounds d.length 999 0 (by omega) (by omega) (by omega) (by omega) (by simp)
end Go.Proofs.Ytoiaegbhnpddlaa.Pure
