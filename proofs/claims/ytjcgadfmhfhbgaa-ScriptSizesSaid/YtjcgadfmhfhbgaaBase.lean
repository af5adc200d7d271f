/- What the functions of layer 2 that other layers use answer, in plain words; no conditions. -/
import Derived.Test.YtjcgadfmhfhbgaaAx2
import Derived.Test.YtjcgadfmhfhbgaaAx3
import Derived.Test.YtjcgadfmhfhbgaaAx11
import Derived.Test.YtjcgadfmhfhbgaaShapeA
namespace Go.Proofs.Ytjcgadfmhfhbgaa.Plain
open Go.RowKit Go.Proofs.Ytjcgadfmhfhbgaa.A Go.Proofs.YtjcgadfmhfhbgaaW.PrintWords Go.Proofs.YtjcgadfmhfhbgaaW.PrintLast Go.Proofs.YtjcgadfmhfhbgaaW.PrintMore
set_option linter.unusedVariables false
set_option linter.unusedSimpArgs false
theorem w0 : wrap64 1 = 1 := by simp [wrap64]
theorem w1 : wrap64 2 = 2 := by simp [wrap64]
theorem w2 : wrap64 3 = 3 := by simp [wrap64]
theorem rd0 (a : Int) (s : List Int) : rd (a :: s) 0 = a := rfl
theorem rd1 (a b : Int) (s : List Int) : rd (a :: b :: s) 1 = b := rfl
theorem rd2 (a b c : Int) (s : List Int) : rd (a :: b :: c :: s) 2 = c := rfl
theorem check_f (s : List Int) (k : Nat) (hk : 5 ≤ k) : shape_Check.f k s = some (chk s) := by
  obtain ⟨k, rfl⟩ : ∃ m, k = m + 5 := ⟨k - 5, by omega⟩
  unfold shape_Check.f
  match s with
  | [] => simp [shape_Check.l0, chk, prod, sides]
  | [a] =>
    by_cases h1 : a < 1
    · have : ¬ 1 ≤ a := by omega
      simp [shape_Check.l0, chk, prod, sides, rd0, h1, this]
    · by_cases h2 : a > 16
      · have : ¬ a ≤ 16 := by omega
        simp [shape_Check.l0, chk, prod, sides, rd0, h1, h2, this]
      · have e : wrap64 (1 * a) = a := by rw [w64] <;> omega
        have a1 : 1 ≤ a := by omega
        have a2 : a ≤ 16 := by omega
        have a3 : 0 < a := by omega
        simp only [Int.one_mul] at e
        simp [shape_Check.l0, chk, prod, sides, rd0, h1, h2, w0, e, a1, a2, a3]
  | [a, b] =>
    by_cases h1 : 1 ≤ a ∧ a ≤ 16
    · obtain ⟨a1, a2⟩ := h1
      have a3 : ¬ a < 1 := by omega
      have a4 : ¬ a > 16 := by omega
      have e : wrap64 a = a := by rw [w64] <;> omega
      by_cases h2 : 1 ≤ b ∧ b ≤ 16
      · obtain ⟨b1, b2⟩ := h2
        have b3 : ¬ b < 1 := by omega
        have b4 : ¬ b > 16 := by omega
        have m := mulb a1 a2 b1 b2
        have e2 : wrap64 (a * b) = a * b := by rw [w64] <;> omega
        have p : 0 < a * b := by omega
        simp [shape_Check.l0, chk, prod, sides, rd0, rd1, w0, w1, e, e2, a1, a2, a3, a4, b1, b2, b3, b4, p]
      · have hn : sides [a, b] = false := by
          rw [Bool.eq_false_iff]; intro h; have := sides_iff.mp h b (by simp); omega
        have hc : chk [a, b] = false := by simp [chk, hn]
        rw [hc]
        by_cases b3 : b < 1
        · simp [shape_Check.l0, rd0, rd1, w0, e, a3, a4, b3]
        · have b4 : b > 16 := by omega
          simp [shape_Check.l0, rd0, rd1, w0, e, a3, a4, b3, b4]
    · have hn : sides [a, b] = false := by
        rw [Bool.eq_false_iff]; intro h; have := sides_iff.mp h a (by simp); omega
      have hc : chk [a, b] = false := by simp [chk, hn]
      rw [hc]
      by_cases b3 : a < 1
      · simp [shape_Check.l0, rd0, b3]
      · have b4 : a > 16 := by omega
        simp [shape_Check.l0, rd0, b3, b4]
  | [a, b, c] =>
    by_cases h1 : 1 ≤ a ∧ a ≤ 16
    · obtain ⟨a1, a2⟩ := h1
      have a3 : ¬ a < 1 := by omega
      have a4 : ¬ a > 16 := by omega
      have e : wrap64 a = a := by rw [w64] <;> omega
      by_cases h2 : 1 ≤ b ∧ b ≤ 16
      · obtain ⟨b1, b2⟩ := h2
        have b3 : ¬ b < 1 := by omega
        have b4 : ¬ b > 16 := by omega
        have m := mulb a1 a2 b1 b2
        have e2 : wrap64 (a * b) = a * b := by rw [w64] <;> omega
        by_cases h3 : 1 ≤ c ∧ c ≤ 16
        · obtain ⟨c1, c2⟩ := h3
          have c3 : ¬ c < 1 := by omega
          have c4 : ¬ c > 16 := by omega
          have m2 := mulb m.1 m.2 c1 c2
          have e3 : wrap64 (a * b * c) = a * b * c := by rw [w64] <;> omega
          have p : 0 < a * b * c := by omega
          simp [shape_Check.l0, chk, prod, sides, rd0, rd1, rd2, w0, w1, w2, e, e2, e3, a1, a2, a3, a4, b1, b2, b3, b4, c1, c2, c3, c4, p, Int.mul_assoc]
          simp [← Int.mul_assoc, e3, p]
        · have hn : sides [a, b, c] = false := by
            rw [Bool.eq_false_iff]; intro h; have := sides_iff.mp h c (by simp); omega
          have hc : chk [a, b, c] = false := by simp [chk, hn]
          rw [hc]
          by_cases c3 : c < 1
          · simp [shape_Check.l0, rd0, rd1, rd2, w0, w1, e, e2, a3, a4, b3, b4, c3]
          · have c4 : c > 16 := by omega
            simp [shape_Check.l0, rd0, rd1, rd2, w0, w1, e, e2, a3, a4, b3, b4, c3, c4]
      · have hn : sides [a, b, c] = false := by
          rw [Bool.eq_false_iff]; intro h; have := sides_iff.mp h b (by simp); omega
        have hc : chk [a, b, c] = false := by simp [chk, hn]
        rw [hc]
        by_cases b3 : b < 1
        · simp [shape_Check.l0, rd0, rd1, w0, e, a3, a4, b3]
        · have b4 : b > 16 := by omega
          simp [shape_Check.l0, rd0, rd1, w0, e, a3, a4, b3, b4]
    · have hn : sides [a, b, c] = false := by
        rw [Bool.eq_false_iff]; intro h; have := sides_iff.mp h a (by simp); omega
      have hc : chk [a, b, c] = false := by simp [chk, hn]
      rw [hc]
      by_cases b3 : a < 1
      · simp [shape_Check.l0, rd0, b3]
      · have b4 : a > 16 := by omega
        simp [shape_Check.l0, rd0, b3, b4]
  | a :: b :: c :: d :: s =>
    have h : chk (a :: b :: c :: d :: s) = false := by simp [chk]
    have h2 : ((a :: b :: c :: d :: s).length : Int) > 3 := by simp; omega
    rw [if_pos h2, h]
theorem chk_cases {s : List Int} (h : chk s = true) : s = [] ∨ (∃ a, s = [a] ∧ 1 ≤ a ∧ a ≤ 16) ∨ (∃ a b, s = [a, b] ∧ 1 ≤ a ∧ a ≤ 16 ∧ 1 ≤ b ∧ b ≤ 16 ∧ a * b ≤ 64) ∨
    ∃ a b c, s = [a, b, c] ∧ 1 ≤ a ∧ a ≤ 16 ∧ 1 ≤ b ∧ b ≤ 16 ∧ 1 ≤ c ∧ c ≤ 16 ∧ a * b * c ≤ 64 := by
  obtain ⟨h1, h2, h3⟩ := chk_iff.mp h
  match s with
  | [] => exact .inl rfl
  | [a] => have := h2 a (by simp); exact .inr (.inl ⟨a, rfl, this⟩)
  | [a, b] =>
    have := h2 a (by simp); have := h2 b (by simp)
    simp [prod] at h3
    exact .inr (.inr (.inl ⟨a, b, rfl, by omega, by omega, by omega, by omega, h3⟩))
  | [a, b, c] =>
    have := h2 a (by simp); have := h2 b (by simp); have := h2 c (by simp)
    rw [show prod [a, b, c] = a * b * c by simp [prod, Int.mul_assoc]] at h3
    exact .inr (.inr (.inr ⟨a, b, c, rfl, by omega, by omega, by omega, by omega, by omega, by omega, h3⟩))
  | a :: b :: c :: d :: s => simp at h1
theorem size_f (s : List Int) (k : Nat) (hk : 5 ≤ k) : shape_Size.f k s = some (siz s) := by
  unfold shape_Size.f siz
  rw [check_f s k hk]
  obtain ⟨k, rfl⟩ : ∃ m, k = m + 5 := ⟨k - 5, by omega⟩
  simp only [Option.bind_some]
  by_cases h : chk s = true
  · rw [if_pos h, if_pos h]
    rcases chk_cases h with rfl | ⟨a, rfl, a1, a2⟩ | ⟨a, b, rfl, a1, a2, b1, b2, _⟩ | ⟨a, b, c, rfl, a1, a2, b1, b2, c1, c2, _⟩
    · simp [shape_Size.l0, prod]
    · have e : wrap64 a = a := by rw [w64] <;> omega
      simp [shape_Size.l0, prod, rd0, w0, e]
    · have e : wrap64 a = a := by rw [w64] <;> omega
      have m := mulb a1 a2 b1 b2
      have e2 : wrap64 (a * b) = a * b := by rw [w64] <;> omega
      simp [shape_Size.l0, prod, rd0, rd1, w0, w1, e, e2]
    · have e : wrap64 a = a := by rw [w64] <;> omega
      have m := mulb a1 a2 b1 b2
      have e2 : wrap64 (a * b) = a * b := by rw [w64] <;> omega
      have m2 := mulb m.1 m.2 c1 c2
      have e3 : wrap64 (a * b * c) = a * b * c := by rw [w64] <;> omega
      rw [show prod [a, b, c] = a * b * c by simp [prod, Int.mul_assoc]]
      simp [shape_Size.l0, rd0, rd1, rd2, w0, w1, w2, e, e2, e3]
  · rw [if_neg h, if_neg h]
theorem siz_le (s : List Int) : siz s ≤ 64 := by
  unfold siz
  split
  · rename_i h; exact (chk_iff.mp h).2.2
  · omega
theorem rd_lt {l : List Int} {i : Nat} (h : i < l.length) : rd l (i : Int) = l[i] := by
  unfold rd
  simp [List.getD_eq_getElem?_getD, h]
end Go.Proofs.Ytjcgadfmhfhbgaa.Plain
