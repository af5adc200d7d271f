/- What the document's powers are; no conditions. -/
import Derived.Test.YtkebkghhncelpaaFixG
import Derived.Test.YtkebkghhncelpaaAx16
import Derived.Test.YtkebkghhncelpaaAx17
namespace Go.Proofs.Ytkebkghhncelpaa.Plain
open Go.RowKit Go.Proofs.Ytkebkghhncelpaa.A Go.Proofs.YtkebkghhncelpaaW.PrintWords Go.Proofs.YtkebkghhncelpaaW.PrintLast Go.Proofs.YtkebkghhncelpaaW.PrintMore
set_option linter.unusedVariables false
set_option linter.unusedSimpArgs false

theorem rfloor_f {a : Int} (h : -9223372036854775808 ≤ a) (h' : a ≤ 9223372036854775807) : fullerref01_floor.f a = some (a / 4294967296, a % 4294967296) := by
  unfold fullerref01_floor.f
  by_cases c : 0 ≤ a
  · rw [Int.tdiv_eq_ediv_of_nonneg c, Int.tmod_eq_emod_of_nonneg c, if_neg (by omega), w64 (by omega) (by omega)]
  · obtain ⟨m, hm⟩ : ∃ m, a = -m := ⟨-a, by omega⟩
    rw [hm, Int.neg_tdiv, Int.neg_tmod, Int.tdiv_eq_ediv_of_nonneg (by omega), Int.tmod_eq_emod_of_nonneg (by omega)]
    by_cases z : -(m % 4294967296) < 0
    · rw [if_pos z, w64 (x := -(m / 4294967296)) (by omega) (by omega), w64 (by omega) (by omega), w64 (by omega) (by omega)]
      exact congrArg some (Prod.ext (by show _ = _; omega) (by show _ = _; omega))
    · rw [if_neg z, w64 (by omega) (by omega)]
      exact congrArg some (Prod.ext (by show _ = _; omega) (by show _ = _; omega))
theorem rsh_up (s : Int) (d : Nat) : ∀ (k : Nat) (x i : Int), s - i = (d : Int) → 0 ≤ i → s ≤ 60 → 0 ≤ x → x * 2 ^ d ≤ 9223372036854775807 → 2 * d + 3 ≤ k → fullerref01_shifted.l0 k x s i = some (x * 2 ^ d, 0) := by
  induction d with
  | zero =>
    intro k x i hd hi hs hx hb hk
    obtain ⟨k, rfl⟩ : ∃ q, k = q + 3 := ⟨k - 3, by omega⟩
    rw [fullerref01_shifted.l0, if_neg (by omega), fullerref01_shifted.j1, if_neg (by simp), fullerref01_shifted.l1, if_neg (by omega), Int.pow_zero, Int.mul_one]
  | succ d ih =>
    intro k x i hd hi hs hx hb hk
    obtain ⟨k, rfl⟩ : ∃ q, k = q + 2 := ⟨k - 2, by omega⟩
    have e : x * 2 ^ (d + 1) = x * 2 * 2 ^ d := by rw [Int.pow_succ, Int.mul_comm (2 ^ d) 2, Int.mul_assoc]
    have p : (1 : Int) ≤ 2 ^ d := by have : (0 : Int) < 2 ^ d := Int.pow_pos (by omega); omega
    have le := Int.mul_le_mul_of_nonneg_left p (show 0 ≤ x * 2 by omega)
    rw [e] at hb ⊢
    rw [fullerref01_shifted.l0, if_pos (by omega), decide_eq_true (show i < 64 by omega), fullerref01_shifted.j1, if_pos rfl, if_neg (by omega), w64 (x := x * 2) (by omega) (by omega), w64 (x := i + 1) (by omega) (by omega)]
    exact ih k (x * 2) (i + 1) (by omega) (by omega) hs (by omega) hb (by omega)
theorem rsh_over (s : Int) (d : Nat) : ∀ (k : Nat) (x i : Int), i + (d : Int) < s → 0 ≤ i → i + (d : Int) ≤ 60 → 0 ≤ x → 4611686018427387903 < x * 2 ^ d → x * 2 ^ d ≤ 9223372036854775807 → 2 * d + 2 ≤ k → fullerref01_shifted.l0 k x s i = some (0, 10) := by
  induction d with
  | zero =>
    intro k x i hd hi hs hx hb hc hk
    obtain ⟨k, rfl⟩ : ∃ q, k = q + 2 := ⟨k - 2, by omega⟩
    rw [Int.pow_zero, Int.mul_one] at hb
    rw [fullerref01_shifted.l0, if_pos (by omega), decide_eq_true (show i < 64 by omega), fullerref01_shifted.j1, if_pos rfl, if_pos (by omega)]
  | succ d ih =>
    intro k x i hd hi hs hx hb hc hk
    obtain ⟨k, rfl⟩ : ∃ q, k = q + 2 := ⟨k - 2, by omega⟩
    have e : x * 2 ^ (d + 1) = x * 2 * 2 ^ d := by rw [Int.pow_succ, Int.mul_comm (2 ^ d) 2, Int.mul_assoc]
    have p : (1 : Int) ≤ 2 ^ d := by have : (0 : Int) < 2 ^ d := Int.pow_pos (by omega); omega
    have le := Int.mul_le_mul_of_nonneg_left p (show 0 ≤ x * 2 by omega)
    rw [e] at hb hc
    rw [fullerref01_shifted.l0, if_pos (by omega), decide_eq_true (show i < 64 by omega), fullerref01_shifted.j1, if_pos rfl, if_neg (by omega), w64 (x := x * 2) (by omega) (by omega), w64 (x := i + 1) (by omega) (by omega)]
    exact ih k (x * 2) (i + 1) (by omega) (by omega) (by omega) (by omega) hb hc (by omega)
theorem rsh_down (s u : Int) (hu : -64 ≤ u) (hus : u = s ∨ (u = -64 ∧ s ≤ -64)) (d : Nat) : ∀ (k : Nat) (x j : Int), j - u = (d : Int) → j ≤ 0 → 0 ≤ x → x ≤ 9223372036854775807 → d + 1 ≤ k → fullerref01_shifted.l1 k x s j = some (x / 2 ^ d, 0) := by
  induction d with
  | zero =>
    intro k x j hd hj hx hb hk
    obtain ⟨k, rfl⟩ : ∃ q, k = q + 1 := ⟨k - 1, by omega⟩
    rw [fullerref01_shifted.l1, Int.pow_zero, Int.ediv_one]
    by_cases c : j > s
    · rw [if_pos c, if_neg (by omega)]
    · rw [if_neg c]
  | succ d ih =>
    intro k x j hd hj hx hb hk
    obtain ⟨k, rfl⟩ : ∃ q, k = q + 1 := ⟨k - 1, by omega⟩
    rw [fullerref01_shifted.l1, if_pos (by omega), if_pos (by omega), Int.tdiv_eq_ediv_of_nonneg hx, w64 (x := x / 2) (by omega) (by omega), w64 (x := j - 1) (by omega) (by omega),
      ih k (x / 2) (j - 1) (by omega) (by omega) (by omega) (by omega) (by omega)]
    have e : x / 2 / 2 ^ d = x / 2 ^ (d + 1) := by
      rw [Int.pow_succ, Int.mul_comm (2 ^ d) 2]
      first | exact Int.ediv_ediv_of_nonneg (by omega) | exact Int.ediv_ediv_eq_ediv_mul x (by omega) | exact (Int.ediv_mul_eq_ediv_ediv ..).symm
    rw [e]
end Go.Proofs.Ytkebkghhncelpaa.Plain
