/- What powers are; no conditions. -/
import Derived.Test.YtkebkghhncelpaaFixJ
import Derived.Test.YtkebkghhncelpaaFixD
import Derived.Test.YtkebkghhncelpaaAx5
import Derived.Test.YtkebkghhncelpaaAx18
namespace Go.Proofs.Ytkebkghhncelpaa.Plain
open Go.RowKit Go.Proofs.Ytkebkghhncelpaa.A Go.Proofs.YtkebkghhncelpaaW.PrintWords Go.Proofs.YtkebkghhncelpaaW.PrintLast Go.Proofs.YtkebkghhncelpaaW.PrintMore
set_option linter.unusedVariables false
set_option linter.unusedSimpArgs false

theorem pow33 : ∀ t : Fin 65, t.val ≠ 33 → ((2 : Int) ^ t.val ≤ 4294967296 ∨ (8589934592 : Int) ≤ 2 ^ (t.val - 1)) := by decide +kernel
theorem bits33 {n : Int} {t : Nat} (h : 4294967296 ≤ n) (h' : n < 8589934592) (B : Bits n t) (ht : t ≤ 64) : t = 33 := by
  by_cases c : t = 33
  · exact c
  · have := pow33 ⟨t, by omega⟩ c
    obtain ⟨b1, b2, b3⟩ := B
    simp only at this
    rcases this with z | z <;> omega
theorem rshifted_f {n s : Int} (h : 4294967296 ≤ n) (h' : n < 8589934592) (k : Nat) (hk : 200 ≤ k) :
    (0 ≤ s → s ≤ 30 → fullerref01_shifted.f k n s = some (n * 2 ^ s.toNat, 0)) ∧ (30 < s → fullerref01_shifted.f k n s = some (0, 10)) := by
  refine ⟨fun a b => ?_, fun a => ?_⟩
  · unfold fullerref01_shifted.f
    have p : (2 : Int) ^ s.toNat ≤ 1073741824 := by
      have : ∀ t : Fin 31, (2 : Int) ^ t.val ≤ 1073741824 := by decide
      exact this ⟨s.toNat, by omega⟩
    have m := Int.mul_le_mul_of_nonneg_left p (show 0 ≤ n by omega)
    exact rsh_up s s.toNat k n 0 (by omega) (by omega) (by omega) (by omega) (by omega) (by omega)
  · unfold fullerref01_shifted.f
    have e : (2 : Int) ^ 30 = 1073741824 := by decide
    exact rsh_over s 30 k n 0 (by omega) (by omega) (by omega) (by omega) (by rw [e]; omega) (by rw [e]; omega) (by omega)
theorem rshifted_down {n s : Int} (h : 0 ≤ n) (h' : n < 8589934592) (hs : s < 0) (k : Nat) (hk : 200 ≤ k) :
    ∃ d : Nat, fullerref01_shifted.f k n s = some (n / 2 ^ d, 0) ∧ ((d : Int) = -s ∧ -s ≤ 64 ∨ d = 64 ∧ 64 < -s) := by
  unfold fullerref01_shifted.f
  obtain ⟨k, rfl⟩ : ∃ q, k = q + 2 := ⟨k - 2, by omega⟩
  rw [fullerref01_shifted.l0, if_neg (by omega), fullerref01_shifted.j1, if_neg (by simp)]
  by_cases c : -s ≤ 64
  · exact ⟨(-s).toNat, rsh_down s s (by omega) (Or.inl rfl) (-s).toNat k n 0 (by omega) (by omega) h (by omega) (by omega), Or.inl ⟨by omega, c⟩⟩
  · exact ⟨64, rsh_down s (-64) (by omega) (Or.inr ⟨rfl, by omega⟩) 64 k n 0 (by omega) (by omega) h (by omega) (by omega), Or.inr ⟨rfl, by omega⟩⟩
theorem both_shifted {n s : Int} (h : 4294967296 ≤ n) (h' : n < 8589934592) (hs : -2147483648 ≤ s) (hs' : s ≤ 2147483647) (k : Nat) (hk : 200 ≤ k) :
    ∃ v, fix_shifted.f k n s = some v ∧ fullerref01_shifted.f k n s = some v := by
  unfold fix_shifted.f
  by_cases c : s < 0
  · rw [if_pos c, u64w, w64 (x := -s) (by omega) (by omega), show -s % 18446744073709551616 = -s by omega]
    obtain ⟨d, hd, hd2⟩ := rshifted_down (n := n) (by omega) h' c k hk
    rw [hd]
    have m0 : 0 ≤ mn (-s) 63 := by unfold mn; split <;> omega
    rw [if_pos m0]
    refine ⟨_, rfl, ?_⟩
    have key : n / 2 ^ d = n / 2 ^ (mn (-s) 63).toNat := by
      by_cases z : -s ≤ 63
      · have : (mn (-s) 63).toNat = d := by unfold mn; split <;> omega
        rw [this]
      · have e1 : (mn (-s) 63).toNat = 63 := by unfold mn; split <;> omega
        have e2 : d = 64 := by omega
        have p1 : (2 : Int) ^ 63 = 9223372036854775808 := by decide
        have p2 : (2 : Int) ^ 64 = 18446744073709551616 := by decide
        rw [e1, e2, p1, p2]
        omega
    have q0 : (1 : Int) ≤ 2 ^ (mn (-s) 63).toNat := by have : (0 : Int) < 2 ^ (mn (-s) 63).toNat := Int.pow_pos (by omega); omega
    have q1 := Int.ediv_nonneg (show 0 ≤ n by omega) (show (0 : Int) ≤ 2 ^ (mn (-s) 63).toNat by omega)
    have q2 : n / 2 ^ (mn (-s) 63).toNat ≤ n := Int.ediv_le_self _ (by omega)
    rw [key, w64 (by omega) (by omega)]
  · rw [if_neg c]
    have m0 : 0 ≤ mn s 63 := by unfold mn; split <;> omega
    rw [if_pos m0]
    obtain ⟨t, ht, ht2, ht3⟩ := len_f (y := n) (by omega) (by omega) k (by omega)
    have t33 := bits33 h h' ht3 ht2
    subst t33
    rw [ht]
    simp only [Option.bind_some, u64w]
    rw [w64 (x := ((33 : Nat) : Int) + s) (by omega) (by omega)]
    unfold fix_told.f
    by_cases c2 : s ≤ 30
    · rw [decide_eq_true (show ((33 : Nat) : Int) + s < 64 by omega), if_pos rfl]
      have e1 : (mn s 63).toNat = s.toNat := by unfold mn; split <;> omega
      have p : (2 : Int) ^ s.toNat ≤ 1073741824 := by
        have : ∀ t : Fin 31, (2 : Int) ^ t.val ≤ 1073741824 := by decide
        exact this ⟨s.toNat, by omega⟩
      have p0 : (0 : Int) < 2 ^ s.toNat := Int.pow_pos (by omega)
      have m := Int.mul_le_mul_of_nonneg_left p (show 0 ≤ n by omega)
      have m2 := Int.mul_nonneg (show 0 ≤ n by omega) (Int.le_of_lt p0)
      rw [e1, (rshifted_f h h' k hk).1 (by omega) c2]
      refine ⟨_, rfl, ?_⟩
      simp only [Option.some.injEq, Prod.mk.injEq, and_true]
      generalize n * 2 ^ s.toNat = z at *
      unfold wrap64
      omega
    · rw [decide_eq_false (show ¬ ((33 : Nat) : Int) + s < 64 by omega), if_neg (by simp), (rshifted_f h h' k hk).2 (by omega)]
      exact ⟨_, rfl, rfl⟩
theorem and_i64 (a : Int) : Go.bits .and .i64 a 4294967295 = a % 4294967296 := by
  have h1 : (BitVec.ofInt 64 a).toNat = (a % 18446744073709551616).toNat := BitVec.toNat_ofInt a
  have h2 : (BitVec.ofInt 64 (4294967295 : Int)).toNat = 4294967295 := by decide
  show IntKind.i64.wrap ((BitVec.ofInt 64 a &&& BitVec.ofInt 64 4294967295).toNat : Int) = _
  have h3 : (a % 18446744073709551616).toNat &&& 4294967295 = (a % 18446744073709551616).toNat % 4294967296 := Nat.and_two_pow_sub_one_eq_mod _ 32
  rw [BitVec.toNat_and, h1, h2, h3, i64_w, w64 (by omega) (by omega)]
  omega
theorem both_pow {a : Int} (h : -9223372036854775808 ≤ a) (h' : a ≤ 9223372036854775807) (k : Nat) (hk : 200 ≤ k) : ∃ v, fix_Pow.f k a = some v ∧ fullerref01_Pow.f k a = some v := by
  unfold fix_Pow.f fullerref01_Pow.f
  rw [rfloor_f h h', and_i64, u64w]
  simp only [Option.bind_some]
  rw [w64 (x := 4294967296 + a % 4294967296) (by omega) (by omega), show (4294967296 + a % 4294967296) % 18446744073709551616 = 4294967296 + a % 4294967296 by omega]
  obtain ⟨v, e1, e2⟩ := both_shifted (n := 4294967296 + a % 4294967296) (s := a / 4294967296) (by omega) (by omega) (by omega) (by omega) k hk
  rw [e1, e2]
  exact ⟨v, rfl, rfl⟩
theorem both_slope {a : Int} (h : -9223372036854775808 ≤ a) (h' : a ≤ 9223372036854775807) (k : Nat) (hk : 200 ≤ k) : ∃ v, fix_Slope.f k a = some v ∧ fullerref01_Slope.f k a = some v := by
  unfold fix_Slope.f fullerref01_Slope.f
  rw [rfloor_f h h']
  simp only [Option.bind_some]
  obtain ⟨v, e1, e2⟩ := both_shifted (n := 4294967296) (s := a / 4294967296) (by omega) (by omega) (by omega) (by omega) k hk
  rw [e1, e2]
  exact ⟨v, rfl, rfl⟩
end Go.Proofs.Ytkebkghhncelpaa.Plain
