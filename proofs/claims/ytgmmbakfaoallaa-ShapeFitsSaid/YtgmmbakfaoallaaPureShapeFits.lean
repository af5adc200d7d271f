/- For all three lists ShapeFits answers true; no conditions but the sizes that the statement names. -/
import Derived.Test.YtgmmbakfaoallaaAx22
import Derived.Test.YtgmmbakfaoallaaShapeC
import Derived.Test.YtgmmbakfaoallaaShapeAwake
namespace Go.Proofs.Ytgmmbakfaoallaa.Pure
open Go.RowKit Go.Proofs.Ytgmmbakfaoallaa.Plain Go.Proofs.Ytgmmbakfaoallaa.A Go.Proofs.YtgmmbakfaoallaaW.PrintWords Go.Proofs.YtgmmbakfaoallaaW.PrintLast Go.Proofs.YtgmmbakfaoallaaW.PrintMore
set_option linter.unusedVariables false
set_option linter.unusedSimpArgs false

/-- What fits has no more numbers. -/
theorem prod_sd (s : List Int) (hl : s.length ≤ 3) : prod s = sd s 0 * (sd s 1 * sd s 2) := by
  match s with
  | [] => simp [prod, sd]
  | [a] => simp [prod, sd]
  | [a, b] => simp [prod, sd, Int.mul_comm]
  | [a, b, c] => simp [prod, sd, ← Int.mul_assoc]; rw [Int.mul_comm (c * b), ← Int.mul_assoc, Int.mul_right_comm]
  | _ :: _ :: _ :: _ :: _ => simp at hl
theorem fits_size {a b : List Int} (h : fits a b = true) : siz a ≤ siz b := by
  obtain ⟨h1, h2, h3, h4⟩ := fits_sd.mp h
  have pa := fun i => sd_pos (chk_sides h1) i
  have pb := fun i => sd_pos (chk_sides h2) i
  have le : ∀ i, sd a i ≤ sd b i := fun i => by have := h4 i; have := pa i; have := pb i; omega
  simp only [siz, h1, h2, if_true]
  rw [prod_sd a (chk_len h1), prod_sd b (chk_len h2)]
  have p1 := pa 0; have p2 := pa 1; have p3 := pa 2
  have q1 := pb 0; have q2 := pb 1; have q3 := pb 2
  apply Int.mul_le_mul (le 0) _ _ (by omega)
  · exact Int.mul_le_mul (le 1) (le 2) (by omega) (by omega)
  · exact Int.mul_nonneg (by omega) (by omega)

theorem ShapeFits : fullerlaw02_ShapeFits.Pure := by
  intro a b c _ _ _ _ _ _ _ _ _
  refine ⟨1000, ?_⟩
  unfold fullerlaw02_ShapeFits.f
  rw [awake_f 1000 (by omega)]
  simp only [Option.bind_some]
  have last : ∀ k, 200 ≤ k → fullerlaw02_ShapeFits.j2 k a b true true true = some true := by
    intro k hk
    obtain ⟨k, rfl⟩ : ∃ m, k = m + 1 := ⟨k - 1, by omega⟩
    simp only [fullerlaw02_ShapeFits.j2]
    rw [fits_f a b k (by omega), size_f a k (by omega), size_f b k (by omega), fits_f a a k (by omega), check_f a k (by omega)]
    simp only [Option.bind_some, if_true, fits_self, beq_self_eq_true]
    by_cases h : fits a b = true
    · obtain ⟨h1, h2, h3, h4⟩ := fits_sd.mp h
      have := fits_size h
      rw [if_pos h, if_pos this]
      simp; omega
    · rw [if_neg h]
  have mid : ∀ k, 201 ≤ k → fullerlaw02_ShapeFits.j1 k a b true true = some true := by
    intro k hk
    obtain ⟨k, rfl⟩ : ∃ m, k = m + 1 := ⟨k - 1, by omega⟩
    simp only [fullerlaw02_ShapeFits.j1]
    rw [fits_f a b k (by omega), fits_f b a k (by omega)]
    simp only [Option.bind_some]
    by_cases h : fits a b = true
    · rw [if_pos h]
      have ha := chk_len (fits_sd.mp h).1
      by_cases h2 : fits b a = true
      · rw [if_pos h2, same_f a b (by omega) k (by omega)]
        simp only [Option.bind_some]
        rw [show decide (a = b) = true from decide_eq_true (fits_anti h h2)]
        exact last k (by omega)
      · rw [if_neg h2]; exact last k (by omega)
    · rw [if_neg h]; exact last k (by omega)
  by_cases h1 : (a.length : Int) > 100
  · rw [if_pos h1]; simp [fullerlaw02_ShapeFits.j0]
  · rw [if_neg h1]
    by_cases h2 : (b.length : Int) > 100
    · rw [if_pos h2]; simp [fullerlaw02_ShapeFits.j0]
    · rw [if_neg h2]
      by_cases h3 : (c.length : Int) > 100
      · simp [fullerlaw02_ShapeFits.j0, h3]
      · simp only [h3, decide_false]
        simp only [fullerlaw02_ShapeFits.j0, Bool.false_eq_true, if_false]
        rw [fits_f a b 999 (by omega), fits_f b c 999 (by omega), fits_f a c 999 (by omega)]
        simp only [Option.bind_some]
        by_cases h4 : fits a b = true
        · rw [if_pos h4]
          by_cases h5 : fits b c = true
          · rw [if_pos h5, fits_trans h4 h5]; exact mid 999 (by omega)
          · rw [if_neg h5]; exact mid 999 (by omega)
        · rw [if_neg h4]; exact mid 999 (by omega)

end Go.Proofs.Ytgmmbakfaoallaa.Pure
