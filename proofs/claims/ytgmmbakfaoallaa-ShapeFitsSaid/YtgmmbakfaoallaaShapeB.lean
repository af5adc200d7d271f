/- What the functions of layer 2 answer, in plain words; no conditions. -/
import Derived.Test.YtgmmbakfaoallaaAx3
import Derived.Test.YtgmmbakfaoallaaAx4
import Derived.Test.YtgmmbakfaoallaaShapeA
namespace Go.Proofs.Ytgmmbakfaoallaa.Plain
open Go.RowKit Go.Proofs.Ytgmmbakfaoallaa.A Go.Proofs.YtgmmbakfaoallaaW.PrintWords Go.Proofs.YtgmmbakfaoallaaW.PrintLast Go.Proofs.YtgmmbakfaoallaaW.PrintMore

set_option linter.unusedVariables false
set_option linter.unusedSimpArgs false

theorem wz : wrap64 0 = 0 := by simp [wrap64]
theorem w0 : wrap64 1 = 1 := by simp [wrap64]
theorem w1 : wrap64 2 = 2 := by simp [wrap64]
theorem w2 : wrap64 3 = 3 := by simp [wrap64]
theorem mx_bigger (x y : Int) : mx x y = bigger x y := rfl
theorem rd0 (a : Int) (s : List Int) : rd (a :: s) 0 = a := rfl
theorem rd1 (a b : Int) (s : List Int) : rd (a :: b :: s) 1 = b := rfl
theorem rd2 (a b c : Int) (s : List Int) : rd (a :: b :: c :: s) 2 = c := rfl

theorem check_f (s : List Int) (k : Nat) (hk : 5 ≤ k) : shape_Check.f k s = some (chk s) := by
  obtain ⟨k, rfl⟩ : ∃ m, k = m + 5 := ⟨k - 5, by omega⟩
  unfold shape_Check.f
  match s with
  | [] => simp [shape_Check.l0, chk, prod, sides]
  | [a] =>
    by_cases h1 : a < 1
    · have : ¬ 1 ≤ a := by omega
      simp [shape_Check.l0, chk, prod, sides, rd0, h1, this]
    · by_cases h2 : a > 16
      · have : ¬ a ≤ 16 := by omega
        simp [shape_Check.l0, chk, prod, sides, rd0, h1, h2, this]
      · have e : wrap64 (1 * a) = a := by rw [w64] <;> omega
        have a1 : 1 ≤ a := by omega
        have a2 : a ≤ 16 := by omega
        have a3 : 0 < a := by omega
        simp only [Int.one_mul] at e
        simp [shape_Check.l0, chk, prod, sides, rd0, h1, h2, w0, e, a1, a2, a3]
  | [a, b] =>
    by_cases h1 : 1 ≤ a ∧ a ≤ 16
    · obtain ⟨a1, a2⟩ := h1
      have a3 : ¬ a < 1 := by omega
      have a4 : ¬ a > 16 := by omega
      have e : wrap64 a = a := by rw [w64] <;> omega
      by_cases h2 : 1 ≤ b ∧ b ≤ 16
      · obtain ⟨b1, b2⟩ := h2
        have b3 : ¬ b < 1 := by omega
        have b4 : ¬ b > 16 := by omega
        have m := mulb a1 a2 b1 b2
        have e2 : wrap64 (a * b) = a * b := by rw [w64] <;> omega
        have p : 0 < a * b := by omega
        simp [shape_Check.l0, chk, prod, sides, rd0, rd1, w0, w1, e, e2, a1, a2, a3, a4, b1, b2, b3, b4, p]
      · have hn : sides [a, b] = false := by
          rw [Bool.eq_false_iff]; intro h; have := sides_iff.mp h b (by simp); omega
        have hc : chk [a, b] = false := by simp [chk, hn]
        rw [hc]
        by_cases b3 : b < 1
        · simp [shape_Check.l0, rd0, rd1, w0, e, a3, a4, b3]
        · have b4 : b > 16 := by omega
          simp [shape_Check.l0, rd0, rd1, w0, e, a3, a4, b3, b4]
    · have hn : sides [a, b] = false := by
        rw [Bool.eq_false_iff]; intro h; have := sides_iff.mp h a (by simp); omega
      have hc : chk [a, b] = false := by simp [chk, hn]
      rw [hc]
      by_cases b3 : a < 1
      · simp [shape_Check.l0, rd0, b3]
      · have b4 : a > 16 := by omega
        simp [shape_Check.l0, rd0, b3, b4]
  | [a, b, c] =>
    by_cases h1 : 1 ≤ a ∧ a ≤ 16
    · obtain ⟨a1, a2⟩ := h1
      have a3 : ¬ a < 1 := by omega
      have a4 : ¬ a > 16 := by omega
      have e : wrap64 a = a := by rw [w64] <;> omega
      by_cases h2 : 1 ≤ b ∧ b ≤ 16
      · obtain ⟨b1, b2⟩ := h2
        have b3 : ¬ b < 1 := by omega
        have b4 : ¬ b > 16 := by omega
        have m := mulb a1 a2 b1 b2
        have e2 : wrap64 (a * b) = a * b := by rw [w64] <;> omega
        by_cases h3 : 1 ≤ c ∧ c ≤ 16
        · obtain ⟨c1, c2⟩ := h3
          have c3 : ¬ c < 1 := by omega
          have c4 : ¬ c > 16 := by omega
          have m2 := mulb m.1 m.2 c1 c2
          have e3 : wrap64 (a * b * c) = a * b * c := by rw [w64] <;> omega
          have p : 0 < a * b * c := by omega
          simp [shape_Check.l0, chk, prod, sides, rd0, rd1, rd2, w0, w1, w2, e, e2, e3, a1, a2, a3, a4, b1, b2, b3, b4, c1, c2, c3, c4, p, Int.mul_assoc]
          simp [← Int.mul_assoc, e3, p]
        · have hn : sides [a, b, c] = false := by
            rw [Bool.eq_false_iff]; intro h; have := sides_iff.mp h c (by simp); omega
          have hc : chk [a, b, c] = false := by simp [chk, hn]
          rw [hc]
          by_cases c3 : c < 1
          · simp [shape_Check.l0, rd0, rd1, rd2, w0, w1, e, e2, a3, a4, b3, b4, c3]
          · have c4 : c > 16 := by omega
            simp [shape_Check.l0, rd0, rd1, rd2, w0, w1, e, e2, a3, a4, b3, b4, c3, c4]
      · have hn : sides [a, b, c] = false := by
          rw [Bool.eq_false_iff]; intro h; have := sides_iff.mp h b (by simp); omega
        have hc : chk [a, b, c] = false := by simp [chk, hn]
        rw [hc]
        by_cases b3 : b < 1
        · simp [shape_Check.l0, rd0, rd1, w0, e, a3, a4, b3]
        · have b4 : b > 16 := by omega
          simp [shape_Check.l0, rd0, rd1, w0, e, a3, a4, b3, b4]
    · have hn : sides [a, b, c] = false := by
        rw [Bool.eq_false_iff]; intro h; have := sides_iff.mp h a (by simp); omega
      have hc : chk [a, b, c] = false := by simp [chk, hn]
      rw [hc]
      by_cases b3 : a < 1
      · simp [shape_Check.l0, rd0, b3]
      · have b4 : a > 16 := by omega
        simp [shape_Check.l0, rd0, b3, b4]
  | a :: b :: c :: d :: s =>
    have h : chk (a :: b :: c :: d :: s) = false := by simp [chk]
    have h2 : ((a :: b :: c :: d :: s).length : Int) > 3 := by simp; omega
    rw [if_pos h2, h]

/-- A shape that may be is one of four forms. -/
theorem chk_cases {s : List Int} (h : chk s = true) : s = [] ∨ (∃ a, s = [a] ∧ 1 ≤ a ∧ a ≤ 16) ∨ (∃ a b, s = [a, b] ∧ 1 ≤ a ∧ a ≤ 16 ∧ 1 ≤ b ∧ b ≤ 16 ∧ a * b ≤ 64) ∨
    ∃ a b c, s = [a, b, c] ∧ 1 ≤ a ∧ a ≤ 16 ∧ 1 ≤ b ∧ b ≤ 16 ∧ 1 ≤ c ∧ c ≤ 16 ∧ a * b * c ≤ 64 := by
  obtain ⟨h1, h2, h3⟩ := chk_iff.mp h
  match s with
  | [] => exact .inl rfl
  | [a] => have := h2 a (by simp); exact .inr (.inl ⟨a, rfl, this⟩)
  | [a, b] =>
    have := h2 a (by simp); have := h2 b (by simp)
    simp [prod] at h3
    exact .inr (.inr (.inl ⟨a, b, rfl, by omega, by omega, by omega, by omega, h3⟩))
  | [a, b, c] =>
    have := h2 a (by simp); have := h2 b (by simp); have := h2 c (by simp)
    rw [show prod [a, b, c] = a * b * c by simp [prod, Int.mul_assoc]] at h3
    exact .inr (.inr (.inr ⟨a, b, c, rfl, by omega, by omega, by omega, by omega, by omega, by omega, h3⟩))
  | a :: b :: c :: d :: s => simp at h1

theorem size_f (s : List Int) (k : Nat) (hk : 5 ≤ k) : shape_Size.f k s = some (siz s) := by
  unfold shape_Size.f siz
  rw [check_f s k hk]
  obtain ⟨k, rfl⟩ : ∃ m, k = m + 5 := ⟨k - 5, by omega⟩
  simp only [Option.bind_some]
  by_cases h : chk s = true
  · rw [if_pos h, if_pos h]
    rcases chk_cases h with rfl | ⟨a, rfl, a1, a2⟩ | ⟨a, b, rfl, a1, a2, b1, b2, _⟩ | ⟨a, b, c, rfl, a1, a2, b1, b2, c1, c2, _⟩
    · simp [shape_Size.l0, prod]
    · have e : wrap64 a = a := by rw [w64] <;> omega
      simp [shape_Size.l0, prod, rd0, w0, e]
    · have e : wrap64 a = a := by rw [w64] <;> omega
      have m := mulb a1 a2 b1 b2
      have e2 : wrap64 (a * b) = a * b := by rw [w64] <;> omega
      simp [shape_Size.l0, prod, rd0, rd1, w0, w1, e, e2]
    · have e : wrap64 a = a := by rw [w64] <;> omega
      have m := mulb a1 a2 b1 b2
      have e2 : wrap64 (a * b) = a * b := by rw [w64] <;> omega
      have m2 := mulb m.1 m.2 c1 c2
      have e3 : wrap64 (a * b * c) = a * b * c := by rw [w64] <;> omega
      rw [show prod [a, b, c] = a * b * c by simp [prod, Int.mul_assoc]]
      simp [shape_Size.l0, rd0, rd1, rd2, w0, w1, w2, e, e2, e3]
  · rw [if_neg h, if_neg h]

/-! ### index -/
def ix (s : List Int) (p : Int) : List Int × Int := if 0 ≤ p ∧ p < siz s then (idx s p, 0) else ([], 20)
theorem tm {p c : Int} (hp : 0 ≤ p) : Int.tmod p c = p % c := Int.tmod_eq_emod_of_nonneg hp
theorem td {p c : Int} (hp : 0 ≤ p) : Int.tdiv p c = p / c := Int.tdiv_eq_ediv_of_nonneg hp
theorem siz_le (s : List Int) : siz s ≤ 64 := by
  unfold siz
  split
  · rename_i h; exact (chk_iff.mp h).2.2
  · omega
theorem chk_of_lt {s : List Int} {p : Int} (h0 : 0 ≤ p) (h1 : p < siz s) : chk s = true := by
  unfold siz at h1
  split at h1
  · assumption
  · omega
theorem div_small {p c : Int} (h0 : 0 ≤ p) (h1 : p ≤ 64) (hc : 1 ≤ c) : 0 ≤ p / c ∧ p / c ≤ 64 ∧ wrap64 (p / c) = p / c := by
  have a := Int.ediv_nonneg h0 (by omega : 0 ≤ c)
  have b : p / c ≤ p := Int.ediv_le_self c h0
  exact ⟨a, by omega, w64 (by omega) (by omega)⟩
theorem index_f (s : List Int) (p : Int) (k : Nat) (hk : 8 ≤ k) : shape_Index.f k s p = some (ix s p) := by
  unfold shape_Index.f ix
  rw [size_f s k (by omega)]
  obtain ⟨k, rfl⟩ : ∃ m, k = m + 8 := ⟨k - 8, by omega⟩
  by_cases h0 : p < 0
  · rw [if_pos h0, if_neg (by omega)]; simp [shape_Index.j0]
  · rw [if_neg h0]
    simp only [Option.bind_some]
    by_cases h1 : p ≥ siz s
    · rw [if_neg (by omega)]; simp [shape_Index.j0, h1]
    · rw [if_pos (by omega)]
      have hc := chk_of_lt (by omega : 0 ≤ p) (by omega : p < siz s)
      have hl := siz_le s
      simp only [shape_Index.j0, h1, decide_false, Bool.false_eq_true, if_false]
      rcases chk_cases hc with rfl | ⟨a, rfl, a1, a2⟩ | ⟨a, b, rfl, a1, a2, b1, b2, _⟩ | ⟨a, b, c, rfl, a1, a2, b1, b2, c1, c2, _⟩
      · simp [shape_Index.l0, idx, idxr]
      · have e1 : a ≠ 0 := by omega
        have := div_small (by omega : 0 ≤ p) (by omega) a1
        simp [shape_Index.l0, idx, idxr, wrap64, rd0, e1, tm (by omega : 0 ≤ p), td (by omega : 0 ≤ p)]
      · have e1 : a ≠ 0 := by omega
        have e2 : b ≠ 0 := by omega
        obtain ⟨d1, d2, d3⟩ := div_small (by omega : 0 ≤ p) (by omega) b1
        have e3 := tm (c := b) (by omega : 0 ≤ p)
        have e4 := td (c := b) (by omega : 0 ≤ p)
        have e5 := tm (c := a) d1
        simp only [List.length_cons, List.length_nil, List.reverse_cons, List.reverse_nil, List.nil_append, List.cons_append]
        simp [shape_Index.l0, idx, idxr, rd0, rd1, e1, e2, wz, w0, w1, e3, e4, e5, d3]
      · have e1 : a ≠ 0 := by omega
        have e2 : b ≠ 0 := by omega
        have e0 : c ≠ 0 := by omega
        obtain ⟨d1, d2, d3⟩ := div_small (by omega : 0 ≤ p) (by omega) c1
        obtain ⟨d4, d5, d6⟩ := div_small d1 d2 b1
        have e3 := tm (c := c) (by omega : 0 ≤ p)
        have e4 := td (c := c) (by omega : 0 ≤ p)
        have e5 := tm (c := b) d1
        have e6 := td (c := b) d1
        have e7 := tm (c := a) d4
        simp only [List.length_cons, List.length_nil, List.reverse_cons, List.reverse_nil, List.nil_append, List.cons_append]
        simp [shape_Index.l0, idx, idxr, rd0, rd1, rd2, e0, e1, e2, wz, w0, w1, w2, e3, e4, e5, e6, e7, d3, d6]
end Go.Proofs.Ytgmmbakfaoallaa.Plain
