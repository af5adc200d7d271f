/- For all lists and numbers ShapeSizes answers true; no conditions but the sizes that the statement names. -/
import Derived.Test.YtgmmbakfaoallaaAx20
import Derived.Test.YtgmmbakfaoallaaShapeC
import Derived.Test.YtgmmbakfaoallaaShapeAwake
namespace Go.Proofs.Ytgmmbakfaoallaa.Pure
open Go.RowKit Go.Proofs.Ytgmmbakfaoallaa.Plain Go.Proofs.Ytgmmbakfaoallaa.A Go.Proofs.YtgmmbakfaoallaaW.PrintWords Go.Proofs.YtgmmbakfaoallaaW.PrintLast Go.Proofs.YtgmmbakfaoallaaW.PrintMore
set_option linter.unusedVariables false
set_option linter.unusedSimpArgs false

theorem chk_cons_one (s : List Int) : chk (1 :: s) = (chk s && decide (s.length < 3)) := by
  rw [Bool.eq_iff_iff, Bool.and_eq_true, chk_iff, chk_iff]
  simp [prod]
  constructor
  · rintro ⟨a, b, c⟩; exact ⟨⟨by omega, b, c⟩, by omega⟩
  · rintro ⟨⟨a, b, c⟩, d⟩; exact ⟨by omega, b, c⟩
theorem chk_snoc (s : List Int) (n : Int) : chk (s ++ [n]) = (chk s && decide (s.length < 3) && decide (1 ≤ n) && decide (n ≤ 16) && decide (prod s * n ≤ 64)) := by
  rw [Bool.eq_iff_iff]
  simp only [Bool.and_eq_true, decide_eq_true_eq, chk_iff, prod_append, prod, Int.mul_one, List.length_append, List.length_cons, List.length_nil, List.mem_append, List.mem_singleton]
  constructor
  · rintro ⟨a, b, c⟩
    have hn := b n (.inr rfl)
    have hs : ∀ x ∈ s, 1 ≤ x ∧ x ≤ 16 := fun x hx => b x (.inl hx)
    have hp := prod_pos (fun x hx => (hs x hx).1)
    have : prod s * 1 ≤ prod s * n := Int.mul_le_mul_of_nonneg_left hn.1 (by omega)
    exact ⟨⟨⟨⟨⟨by omega, hs, by omega⟩, by omega⟩, hn.1⟩, hn.2⟩, c⟩
  · rintro ⟨⟨⟨⟨⟨a, b, c⟩, d⟩, e⟩, f⟩, g⟩
    refine ⟨by omega, ?_, g⟩
    rintro x (hx | rfl)
    · exact b x hx
    · exact ⟨e, f⟩

theorem ShapeSizes : fullerlaw02_ShapeSizes.Pure := by
  intro s n hm _ _ hw
  have hn : -9223372036854775808 ≤ n ∧ n ≤ 9223372036854775807 := by
    have := hw; simp [Lit.wf, IntKind.min, IntKind.max, IntKind.bits, IntKind.signed] at this; omega
  refine ⟨1000, ?_⟩
  unfold fullerlaw02_ShapeSizes.f
  rw [awake_f 1000 (by omega)]
  simp only [Option.bind_some]
  by_cases h1 : (s.length : Int) > 100
  · rw [if_pos h1]
  · rw [if_neg h1]
    simp only [Option.bind_some, List.length_nil, List.nil_append, List.length_cons]
    rw [if_pos (by omega), if_pos (by omega), if_pos (by omega), check_f s 1000 (by omega)]
    simp only [Option.bind_some]
    have hlong : chk (s ++ [n]) = (chk s && decide (s.length < 3) && decide (1 ≤ n) && decide (n ≤ 16) && decide (prod s * n ≤ 64)) := chk_snoc s n
    by_cases hc : chk s = true
    · rw [if_pos hc, size_f s 1000 (by omega)]
      simp only [Option.bind_some]
      have hsz : siz s = prod s := by simp [siz, hc]
      have hp := prod_pos (fun x hx => (chk_sides hc x hx).1)
      have hle := (chk_iff.mp hc).2.2
      have hmore : chk (1 :: s) = decide (s.length < 3) := by
        rw [chk_cons_one, hc]; simp
      have hsm : s.length < 3 → siz (1 :: s) = prod s := by
        intro h; simp [siz, hmore, h, prod]
      have last : ∀ fits : Bool, fits = chk (s ++ [n]) → fullerlaw02_ShapeSizes.j0 1000 s n true (1 :: s) (s ++ [n]) (siz s) fits = some true := by
        intro ft hft
        simp only [fullerlaw02_ShapeSizes.j0]
        rw [if_pos trivial, if_pos (by omega), if_pos (by omega), check_f (1 :: s) 999 (by omega)]
        simp only [Option.bind_some, hmore]
        rw [if_pos (by simp; omega)]
        have hfin : ((shape_Check.f 999 (s ++ [n])).bind fun t381 => if (t381 == ft) = true then if ft = true then (shape_Size.f 999 (s ++ [n])).bind fun t382 => some (t382 == wrap64 (siz s * n)) else some true else some false) = some true := by
          rw [check_f _ 999 (by omega), size_f _ 999 (by omega)]
          simp only [Option.bind_some, hft, beq_self_eq_true, if_true]
          by_cases hl : chk (s ++ [n]) = true
          · rw [if_pos hl]
            have hs2 : siz (s ++ [n]) = prod s * n := by simp [siz, hl, prod_append, prod]
            have h3 := hl
            rw [hlong] at h3
            simp at h3
            have hw2 : wrap64 (prod s * n) = prod s * n := by
              have := mulb hp hle h3.1.1.2 h3.1.2
              rw [w64] <;> omega
            rw [hs2, hsz, hw2]; simp
          · rw [if_neg hl]
        by_cases h3 : (s.length : Int) = 3
        · rw [if_pos h3]; exact hfin
        · rw [if_neg h3, size_f (1 :: s) 999 (by omega)]
          have := chk_len hc
          simp only [Option.bind_some]
          rw [if_pos (by rw [hsm (by omega), hsz])]
          exact hfin
      have e0 : [1] ++ s = 1 :: s := rfl
      rw [e0]
      by_cases h3 : (s.length : Int) < 3
      · rw [if_pos h3]
        by_cases h4 : n ≥ 1
        · rw [if_pos h4]
          by_cases h5 : n ≤ 16
          · rw [if_pos h5]
            apply last
            have hw2 : wrap64 (prod s * n) = prod s * n := by
              have := mulb hp hle h4 h5
              rw [w64] <;> omega
            rw [hlong, hc, hsz, hw2]
            have a1 : s.length < 3 := by omega
            simp [a1, h5, (by omega : 1 ≤ n)]
          · rw [if_neg h5]; apply last; rw [hlong]; simp [h5]
        · have h4' : ¬ 1 ≤ n := by omega
          rw [if_neg h4]; apply last; rw [hlong]; simp [h4']
      · have h3' : ¬ s.length < 3 := by omega
        rw [if_neg h3]; apply last; rw [hlong]; simp [h3']
    · rw [if_neg hc, size_f s 1000 (by omega), check_f (s ++ [n]) 1000 (by omega)]
      have hsz : siz s = 0 := by simp [siz, hc]
      have hc' : chk s = false := by simpa using hc
      rw [hlong, hc', hsz]
      simp

end Go.Proofs.Ytgmmbakfaoallaa.Pure
