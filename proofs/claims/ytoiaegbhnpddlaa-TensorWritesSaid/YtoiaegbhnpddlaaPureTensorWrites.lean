/- For all tensors, places and numbers TensorWrites answers true; no conditions but the sizes that the statement names. -/
import Derived.Test.YtoiaegbhnpddlaaAx14
import Derived.Test.YtoiaegbhnpddlaaTenAwake
import Derived.Test.YtoiaegbhnpddlaaTenC
namespace Go.Proofs.Ytoiaegbhnpddlaa.Pure
open Go.RowKit Go.Proofs.Ytoiaegbhnpddlaa.A Go.Proofs.YtoiaegbhnpddlaaW.PrintWords Go.Proofs.YtoiaegbhnpddlaaW.PrintLast Go.Proofs.YtoiaegbhnpddlaaW.PrintMore Go.Proofs.Ytoiaegbhnpddlaa.Plain
set_option linter.unusedVariables false
set_option linter.unusedSimpArgs false
theorem wf64 {l : List Int} (h : ∀ x ∈ l, (Lit.int .i64 x).wf = true) : in64 l := fun x hx => by
  have := h x hx
  simp [Lit.wf, IntKind.min, IntKind.max, IntKind.signed, IntKind.bits] at this
  omega
theorem TensorWrites : fullerlaw03_TensorWrites.Pure := by
  intro s d p q n hs hd hp hq hn
  refine ⟨1000, ?_⟩
  unfold fullerlaw03_TensorWrites.f
  rw [awake_f _ (by omega), few_f]
  simp only [Option.bind_some]
  have out : fullerlaw03_TensorWrites.j0 1000 p q n true true s d = some true := by
    rw [show 1000 = 999 + 1 from rfl, fullerlaw03_TensorWrites.j0, if_pos rfl]
  cases hf : fewT s d with
  | false => rw [if_neg (by simp)]; exact out
  | true =>
    rw [if_pos rfl, tcheck_f _ _ _ (by omega)]
    simp only [Option.bind_some]
    cases ht : tchk s d with
    | false => exact out
    | true =>
      obtain ⟨hc, hl⟩ := tchk_iff.mp ht
      have h64 := siz_le s
      have hpos : ∀ c ∈ s, 1 ≤ c := fun c hc' => (chk_sides hc c hc').1
      rw [show 1000 = 999 + 1 from rfl, fullerlaw03_TensorWrites.j0, if_neg (by simp), index_f _ _ _ (by omega), index_f _ _ _ (by omega)]
      simp only [Option.bind_some]
      by_cases hP : 0 ≤ p ∧ p < siz s
      · rw [show ix s p = (idx s p, 0) from if_pos hP]
        simp only [if_true]
        by_cases hQ : 0 ≤ q ∧ q < siz s
        · rw [show ix s q = (idx s q, 0) from if_pos hQ]
          have eP := plc_idx hpos hP.1 (by rw [← siz_prod hc]; exact hP.2)
          have eQ := plc_idx hpos hQ.1 (by rw [← siz_prod hc]; exact hQ.2)
          have eat : atT s d (idx s q) = (rd d q, 0) := by
            unfold atT
            rw [if_pos ht, if_pos eQ.2, eQ.1]
          have ew : withT s d (idx s p) n = (s, d.set p.toNat n, 0) := by
            unfold withT
            rw [if_pos (atT_ok.mpr ⟨ht, eP.2⟩), eP.1]
          have ht2 : tchk s (d.set p.toNat n) = true := tchk_iff.mpr ⟨hc, by simpa using hl⟩
          have ea1 : atT s (d.set p.toNat n) (idx s p) = (rd (d.set p.toNat n) p, 0) := by
            unfold atT
            rw [if_pos ht2, if_pos eP.2, eP.1]
          have ea2 : atT s (d.set p.toNat n) (idx s q) = (rd (d.set p.toNat n) q, 0) := by
            unfold atT
            rw [if_pos ht2, if_pos eQ.2, eQ.1]
          have er : ∀ v : Int, 0 ≤ v → v < siz s → rd (d.set p.toNat n) v = if p = v then n else rd d v := fun v h0 h1 => by
            obtain ⟨i, rfl⟩ := Int.eq_ofNat_of_zero_le h0
            exact rd_set hP.1 (by omega) (by omega)
          have em : mx 0 (mn q (wrap64 ((d.length : Int) - 1))) = q := by
            rw [w64 (by omega) (by omega)]
            unfold mx mn
            split <;> split <;> omega
          have eg : (d.length : Int) > mx p q := by unfold mx; split <;> omega
          rw [show 999 = 998 + 1 from rfl, fullerlaw03_TensorWrites.j1, if_neg (by simp), twith_f _ _ _ _ _ (by omega), ew]
          simp only [Option.bind_some]
          rw [tat_f _ _ _ _ (by omega), tat_f _ _ _ _ (by omega), tat_f _ _ _ _ (by omega), eat, ea1, ea2]
          simp only [Option.bind_some, if_true]
          rw [er p hP.1 hP.2, er q hQ.1 hQ.2, if_pos rfl, em, tcheck_f _ _ _ (by omega), ht2]
          simp only [Option.bind_some, if_true]
          have eq1 : q < (d.length : Int) := by omega
          have eq0 := hQ.1
          by_cases hpq : p = q
          · subst hpq
            simp [eg, eq0, eq1]
          · simp [hpq, eg, eq0, eq1]
        · rw [show ix s q = ([], 20) from if_neg hQ]
          rw [show 999 = 998 + 1 from rfl, fullerlaw03_TensorWrites.j1, if_pos (by simp)]
      · rw [show ix s p = ([], 20) from if_neg hP]
        simp only
        rw [if_neg (by omega), show 999 = 998 + 1 from rfl, fullerlaw03_TensorWrites.j1, if_pos rfl]
end Go.Proofs.Ytoiaegbhnpddlaa.Pure
