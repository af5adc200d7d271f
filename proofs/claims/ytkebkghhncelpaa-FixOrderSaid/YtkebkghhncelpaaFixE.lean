/- What a quotient is; no conditions. -/
import Derived.Test.YtkebkghhncelpaaFixD
import Derived.Test.YtkebkghhncelpaaAx9
namespace Go.Proofs.Ytkebkghhncelpaa.Plain
open Go.RowKit Go.Proofs.Ytkebkghhncelpaa.A Go.Proofs.YtkebkghhncelpaaW.PrintWords Go.Proofs.YtkebkghhncelpaaW.PrintLast Go.Proofs.YtkebkghhncelpaaW.PrintMore
set_option linter.unusedVariables false
set_option linter.unusedSimpArgs false

/-- v is c divided by b, floored. -/
def Floor (c b v : Int) : Prop := (0 < b → v * b ≤ c ∧ c < v * b + b) ∧ (b < 0 → c ≤ v * b ∧ v * b + b < c)
theorem Floor.one {c b v w : Int} (hb : b ≠ 0) (h : Floor c b v) (h' : Floor c b w) : v = w := by
  have lem : ∀ v w : Int, Floor c b v → Floor c b w → v ≤ w := by
    intro v w h h'
    by_cases z : v ≤ w
    · exact z
    · rcases Int.lt_or_gt_of_ne hb with n | p
      · have h1 := h.2 n
        have h2 := h'.2 n
        have := Int.mul_le_mul_of_nonpos_right (show w + 1 ≤ v by omega) (Int.le_of_lt n)
        rw [Int.add_mul, Int.one_mul] at this
        omega
      · have h1 := h.1 p
        have h2 := h'.1 p
        have := Int.mul_le_mul_of_nonneg_right (show w + 1 ≤ v by omega) (Int.le_of_lt p)
        rw [Int.add_mul, Int.one_mul] at this
        omega
  exact Int.le_antisymm (lem v w h h') (lem w v h' h)
theorem div_f {a b : Int} (ha : -9223372036854775808 ≤ a) (ha' : a ≤ 9223372036854775807) (hb : -9223372036854775808 ≤ b) (hb' : b ≤ 9223372036854775807) (hb0 : b ≠ 0) (k : Nat) (hk : 30 ≤ k) :
    ∃ v, fix_Div.f k a b = some (inw v) ∧ Floor (a * 4294967296) b v := by
  unfold fix_Div.f
  rw [if_neg hb0, size_f ha ha', size_f hb hb', apart_f]
  simp only [Option.bind_some]
  obtain ⟨x, hx⟩ : ∃ x, x = (if a < 0 then -a else a) := ⟨_, rfl⟩
  obtain ⟨y, hy⟩ : ∃ y, y = (if b < 0 then -b else b) := ⟨_, rfl⟩
  rw [← hx, ← hy]
  have bx : 0 ≤ x ∧ x ≤ 9223372036854775808 := by subst hx; split <;> omega
  have byy : 1 ≤ y ∧ y ≤ 9223372036854775808 := by subst hy; split <;> omega
  have h0 : 0 ≤ x / 4294967296 := by omega
  rw [if_neg (by omega), Int.tmod_eq_emod_of_nonneg h0, Int.tdiv_eq_ediv_of_nonneg h0]
  simp only [u64w]
  have q0 := Int.ediv_nonneg h0 (show 0 ≤ y by omega)
  have q1 : x / 4294967296 / y ≤ x / 4294967296 := Int.ediv_le_self _ h0
  have r0 := Int.emod_nonneg (x / 4294967296) (show y ≠ 0 by omega)
  have r1 := Int.emod_lt_of_pos (x / 4294967296) (show 0 < y by omega)
  have ed := Int.emod_def (x / 4294967296) y
  rw [Int.mul_comm y] at ed
  obtain ⟨Q, R, e, Q0, Q1, R0, R1, er⟩ := div64 (a0 := x / 4294967296 % y) (a1 := x * 4294967296 % 18446744073709551616) (a2 := y) r0 r1 (by omega) (by omega) (by omega) k hk
  rw [e]
  simp only [Option.bind_some]
  rw [if_pos Q0]
  obtain ⟨W, hW⟩ : ∃ W, W = x / 4294967296 / y := ⟨_, rfl⟩
  rw [← hW] at q0 q1 ed ⊢
  obtain ⟨N, hN⟩ : ∃ N, N = W * 18446744073709551616 + Q := ⟨_, rfl⟩
  have tot : x * 4294967296 = N * y + R := by
    rw [hN, Int.add_mul, Int.mul_right_comm]
    rw [ed] at er
    generalize W * y = z at *
    generalize Q * y = z' at *
    omega
  have n1 : W % 18446744073709551616 = N / 18446744073709551616 := by omega
  have n2 : Q = N % 18446744073709551616 := by omega
  have n0 : 0 ≤ N ∧ N < 100000000000000000000000000000000000000 := by omega
  rw [n1]
  rw [show wsig (N / 18446744073709551616) Q = wsig (N / 18446744073709551616) (N % 18446744073709551616) by rw [← n2], wsig_eq n0.1 n0.2]
  clear n1 n2 e er ed hN hW q0 q1 r0 r1
  have dr : ∀ z : Bool, z = (R != 0) → (if z = true then N + 1 else N) = (if R = 0 then N else N + 1) := by
    intro z hz
    by_cases c : R = 0
    · rw [hz, c]; simp
    · have : (R != 0) = true := bne_iff_ne.mpr c
      rw [hz, this, if_pos rfl, if_neg c]
  by_cases ca : a < 0
  · rw [if_pos ca] at hx
    by_cases cb : b < 0
    · rw [if_pos cb] at hy
      rw [show (decide (a ≠ 0 ∧ b ≠ 0) && (decide (a < 0) != decide (b < 0))) = false by simp [ca, cb], fsig_pos n0.1]
      refine ⟨N, rfl, fun _ => by omega, fun _ => ?_⟩
      rw [hx, hy, Int.mul_neg, Int.neg_mul] at tot
      generalize N * b = z at *
      omega
    · rw [if_neg cb] at hy
      rw [show (decide (a ≠ 0 ∧ b ≠ 0) && (decide (a < 0) != decide (b < 0))) = true by simp [ca, cb, hb0]; omega, fsig_neg n0.1, dr _ rfl]
      refine ⟨_, rfl, fun _ => ?_, fun _ => by omega⟩
      rw [hx, hy, Int.neg_mul] at tot
      by_cases c : R = 0
      · rw [if_pos c, Int.neg_mul]
        generalize N * b = z at *
        omega
      · rw [if_neg c, Int.neg_mul, Int.add_mul, Int.one_mul]
        generalize N * b = z at *
        omega
  · rw [if_neg ca] at hx
    by_cases cb : b < 0
    · rw [if_pos cb] at hy
      by_cases ca0 : a = 0
      · subst ca0
        rw [show (decide ((0 : Int) ≠ 0 ∧ b ≠ 0) && (decide ((0 : Int) < 0) != decide (b < 0))) = false by simp, fsig_pos n0.1]
        refine ⟨N, rfl, fun _ => by omega, fun _ => ?_⟩
        rw [hx, hy, Int.mul_neg] at tot
        generalize N * b = z at *
        omega
      · rw [show (decide (a ≠ 0 ∧ b ≠ 0) && (decide (a < 0) != decide (b < 0))) = true by simp [ca, cb, hb0, ca0], fsig_neg n0.1, dr _ rfl]
        refine ⟨_, rfl, fun _ => by omega, fun _ => ?_⟩
        rw [hx, hy, Int.mul_neg] at tot
        by_cases c : R = 0
        · rw [if_pos c, Int.neg_mul]
          generalize N * b = z at *
          omega
        · rw [if_neg c, Int.neg_mul, Int.add_mul, Int.one_mul]
          generalize N * b = z at *
          omega
    · rw [if_neg cb] at hy
      rw [show (decide (a ≠ 0 ∧ b ≠ 0) && (decide (a < 0) != decide (b < 0))) = false by simp [ca, cb], fsig_pos n0.1]
      refine ⟨N, rfl, fun _ => ?_, fun _ => by omega⟩
      rw [hx, hy] at tot
      generalize N * b = z at *
      omega
theorem neg_f {a : Int} (ha : -9223372036854775808 ≤ a) (ha' : a ≤ 9223372036854775807) : fix_Neg.f a = some (inw (-a)) := by
  unfold fix_Neg.f fix_told.f
  by_cases c : a = -9223372036854775808
  · subst c
    decide
  · rw [inw_in (by omega) (by omega), w64 (by omega) (by omega)]
    simp [c]
end Go.Proofs.Ytkebkghhncelpaa.Plain
