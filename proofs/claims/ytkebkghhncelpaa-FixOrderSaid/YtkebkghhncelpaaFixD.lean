/- How many bits a number has; two words divided by one; no conditions. -/
import Derived.Test.YtkebkghhncelpaaFixC
import Derived.Laws.Bits64b
namespace Go.Proofs.Ytkebkghhncelpaa.Plain
open Go.RowKit Go.Proofs.Ytkebkghhncelpaa.A Go.Proofs.YtkebkghhncelpaaW.PrintWords Go.Proofs.YtkebkghhncelpaaW.PrintLast Go.Proofs.YtkebkghhncelpaaW.PrintMore
set_option linter.unusedVariables false
set_option linter.unusedSimpArgs false

/-- t is how many bits c has. -/
def Bits (c : Int) (t : Nat) : Prop := 1 ≤ t ∧ (2 : Int) ^ (t - 1) ≤ c ∧ c < 2 ^ t
theorem tab_all : ∀ n : Fin 256, 1 ≤ n.val → 1 ≤ (bt (⟨#[0, 1, 2, 2, 3, 3, 3, 3, 4, 4, 4, 4, 4, 4, 4, 4, 5, 5, 5, 5, 5, 5, 5, 5, 5, 5, 5, 5, 5, 5, 5, 5, 6, 6, 6, 6, 6, 6, 6, 6, 6, 6, 6, 6, 6, 6, 6, 6, 6, 6, 6, 6, 6, 6, 6, 6, 6, 6, 6, 6, 6, 6, 6, 6, 7, 7, 7, 7, 7, 7, 7, 7, 7, 7, 7, 7, 7, 7, 7, 7, 7, 7, 7, 7, 7, 7, 7, 7, 7, 7, 7, 7, 7, 7, 7, 7, 7, 7, 7, 7, 7, 7, 7, 7, 7, 7, 7, 7, 7, 7, 7, 7, 7, 7, 7, 7, 7, 7, 7, 7, 7, 7, 7, 7, 7, 7, 7, 7, 8, 8, 8, 8, 8, 8, 8, 8, 8, 8, 8, 8, 8, 8, 8, 8, 8, 8, 8, 8, 8, 8, 8, 8, 8, 8, 8, 8, 8, 8, 8, 8, 8, 8, 8, 8, 8, 8, 8, 8, 8, 8, 8, 8, 8, 8, 8, 8, 8, 8, 8, 8, 8, 8, 8, 8, 8, 8, 8, 8, 8, 8, 8, 8, 8, 8, 8, 8, 8, 8, 8, 8, 8, 8, 8, 8, 8, 8, 8, 8, 8, 8, 8, 8, 8, 8, 8, 8, 8, 8, 8, 8, 8, 8, 8, 8, 8, 8, 8, 8, 8, 8, 8, 8, 8, 8, 8, 8, 8, 8, 8, 8, 8, 8, 8, 8, 8, 8, 8, 8, 8, 8, 8, 8, 8, 8, 8, 8]⟩ : ByteArray) (n.val : Int)).toNat ∧ (bt (⟨#[0, 1, 2, 2, 3, 3, 3, 3, 4, 4, 4, 4, 4, 4, 4, 4, 5, 5, 5, 5, 5, 5, 5, 5, 5, 5, 5, 5, 5, 5, 5, 5, 6, 6, 6, 6, 6, 6, 6, 6, 6, 6, 6, 6, 6, 6, 6, 6, 6, 6, 6, 6, 6, 6, 6, 6, 6, 6, 6, 6, 6, 6, 6, 6, 7, 7, 7, 7, 7, 7, 7, 7, 7, 7, 7, 7, 7, 7, 7, 7, 7, 7, 7, 7, 7, 7, 7, 7, 7, 7, 7, 7, 7, 7, 7, 7, 7, 7, 7, 7, 7, 7, 7, 7, 7, 7, 7, 7, 7, 7, 7, 7, 7, 7, 7, 7, 7, 7, 7, 7, 7, 7, 7, 7, 7, 7, 7, 7, 8, 8, 8, 8, 8, 8, 8, 8, 8, 8, 8, 8, 8, 8, 8, 8, 8, 8, 8, 8, 8, 8, 8, 8, 8, 8, 8, 8, 8, 8, 8, 8, 8, 8, 8, 8, 8, 8, 8, 8, 8, 8, 8, 8, 8, 8, 8, 8, 8, 8, 8, 8, 8, 8, 8, 8, 8, 8, 8, 8, 8, 8, 8, 8, 8, 8, 8, 8, 8, 8, 8, 8, 8, 8, 8, 8, 8, 8, 8, 8, 8, 8, 8, 8, 8, 8, 8, 8, 8, 8, 8, 8, 8, 8, 8, 8, 8, 8, 8, 8, 8, 8, 8, 8, 8, 8, 8, 8, 8, 8, 8, 8, 8, 8, 8, 8, 8, 8, 8, 8, 8, 8, 8, 8, 8, 8, 8, 8]⟩ : ByteArray) (n.val : Int)).toNat ≤ 8 ∧ bt (⟨#[0, 1, 2, 2, 3, 3, 3, 3, 4, 4, 4, 4, 4, 4, 4, 4, 5, 5, 5, 5, 5, 5, 5, 5, 5, 5, 5, 5, 5, 5, 5, 5, 6, 6, 6, 6, 6, 6, 6, 6, 6, 6, 6, 6, 6, 6, 6, 6, 6, 6, 6, 6, 6, 6, 6, 6, 6, 6, 6, 6, 6, 6, 6, 6, 7, 7, 7, 7, 7, 7, 7, 7, 7, 7, 7, 7, 7, 7, 7, 7, 7, 7, 7, 7, 7, 7, 7, 7, 7, 7, 7, 7, 7, 7, 7, 7, 7, 7, 7, 7, 7, 7, 7, 7, 7, 7, 7, 7, 7, 7, 7, 7, 7, 7, 7, 7, 7, 7, 7, 7, 7, 7, 7, 7, 7, 7, 7, 7, 8, 8, 8, 8, 8, 8, 8, 8, 8, 8, 8, 8, 8, 8, 8, 8, 8, 8, 8, 8, 8, 8, 8, 8, 8, 8, 8, 8, 8, 8, 8, 8, 8, 8, 8, 8, 8, 8, 8, 8, 8, 8, 8, 8, 8, 8, 8, 8, 8, 8, 8, 8, 8, 8, 8, 8, 8, 8, 8, 8, 8, 8, 8, 8, 8, 8, 8, 8, 8, 8, 8, 8, 8, 8, 8, 8, 8, 8, 8, 8, 8, 8, 8, 8, 8, 8, 8, 8, 8, 8, 8, 8, 8, 8, 8, 8, 8, 8, 8, 8, 8, 8, 8, 8, 8, 8, 8, 8, 8, 8, 8, 8, 8, 8, 8, 8, 8, 8, 8, 8, 8, 8, 8, 8, 8, 8, 8, 8]⟩ : ByteArray) (n.val : Int) = ((bt (⟨#[0, 1, 2, 2, 3, 3, 3, 3, 4, 4, 4, 4, 4, 4, 4, 4, 5, 5, 5, 5, 5, 5, 5, 5, 5, 5, 5, 5, 5, 5, 5, 5, 6, 6, 6, 6, 6, 6, 6, 6, 6, 6, 6, 6, 6, 6, 6, 6, 6, 6, 6, 6, 6, 6, 6, 6, 6, 6, 6, 6, 6, 6, 6, 6, 7, 7, 7, 7, 7, 7, 7, 7, 7, 7, 7, 7, 7, 7, 7, 7, 7, 7, 7, 7, 7, 7, 7, 7, 7, 7, 7, 7, 7, 7, 7, 7, 7, 7, 7, 7, 7, 7, 7, 7, 7, 7, 7, 7, 7, 7, 7, 7, 7, 7, 7, 7, 7, 7, 7, 7, 7, 7, 7, 7, 7, 7, 7, 7, 8, 8, 8, 8, 8, 8, 8, 8, 8, 8, 8, 8, 8, 8, 8, 8, 8, 8, 8, 8, 8, 8, 8, 8, 8, 8, 8, 8, 8, 8, 8, 8, 8, 8, 8, 8, 8, 8, 8, 8, 8, 8, 8, 8, 8, 8, 8, 8, 8, 8, 8, 8, 8, 8, 8, 8, 8, 8, 8, 8, 8, 8, 8, 8, 8, 8, 8, 8, 8, 8, 8, 8, 8, 8, 8, 8, 8, 8, 8, 8, 8, 8, 8, 8, 8, 8, 8, 8, 8, 8, 8, 8, 8, 8, 8, 8, 8, 8, 8, 8, 8, 8, 8, 8, 8, 8, 8, 8, 8, 8, 8, 8, 8, 8, 8, 8, 8, 8, 8, 8, 8, 8, 8, 8, 8, 8, 8, 8]⟩ : ByteArray) (n.val : Int)).toNat : Int) ∧
    (2 : Int) ^ ((bt (⟨#[0, 1, 2, 2, 3, 3, 3, 3, 4, 4, 4, 4, 4, 4, 4, 4, 5, 5, 5, 5, 5, 5, 5, 5, 5, 5, 5, 5, 5, 5, 5, 5, 6, 6, 6, 6, 6, 6, 6, 6, 6, 6, 6, 6, 6, 6, 6, 6, 6, 6, 6, 6, 6, 6, 6, 6, 6, 6, 6, 6, 6, 6, 6, 6, 7, 7, 7, 7, 7, 7, 7, 7, 7, 7, 7, 7, 7, 7, 7, 7, 7, 7, 7, 7, 7, 7, 7, 7, 7, 7, 7, 7, 7, 7, 7, 7, 7, 7, 7, 7, 7, 7, 7, 7, 7, 7, 7, 7, 7, 7, 7, 7, 7, 7, 7, 7, 7, 7, 7, 7, 7, 7, 7, 7, 7, 7, 7, 7, 8, 8, 8, 8, 8, 8, 8, 8, 8, 8, 8, 8, 8, 8, 8, 8, 8, 8, 8, 8, 8, 8, 8, 8, 8, 8, 8, 8, 8, 8, 8, 8, 8, 8, 8, 8, 8, 8, 8, 8, 8, 8, 8, 8, 8, 8, 8, 8, 8, 8, 8, 8, 8, 8, 8, 8, 8, 8, 8, 8, 8, 8, 8, 8, 8, 8, 8, 8, 8, 8, 8, 8, 8, 8, 8, 8, 8, 8, 8, 8, 8, 8, 8, 8, 8, 8, 8, 8, 8, 8, 8, 8, 8, 8, 8, 8, 8, 8, 8, 8, 8, 8, 8, 8, 8, 8, 8, 8, 8, 8, 8, 8, 8, 8, 8, 8, 8, 8, 8, 8, 8, 8, 8, 8, 8, 8, 8, 8]⟩ : ByteArray) (n.val : Int)).toNat - 1) ≤ (n.val : Int) ∧ (n.val : Int) < 2 ^ (bt (⟨#[0, 1, 2, 2, 3, 3, 3, 3, 4, 4, 4, 4, 4, 4, 4, 4, 5, 5, 5, 5, 5, 5, 5, 5, 5, 5, 5, 5, 5, 5, 5, 5, 6, 6, 6, 6, 6, 6, 6, 6, 6, 6, 6, 6, 6, 6, 6, 6, 6, 6, 6, 6, 6, 6, 6, 6, 6, 6, 6, 6, 6, 6, 6, 6, 7, 7, 7, 7, 7, 7, 7, 7, 7, 7, 7, 7, 7, 7, 7, 7, 7, 7, 7, 7, 7, 7, 7, 7, 7, 7, 7, 7, 7, 7, 7, 7, 7, 7, 7, 7, 7, 7, 7, 7, 7, 7, 7, 7, 7, 7, 7, 7, 7, 7, 7, 7, 7, 7, 7, 7, 7, 7, 7, 7, 7, 7, 7, 7, 8, 8, 8, 8, 8, 8, 8, 8, 8, 8, 8, 8, 8, 8, 8, 8, 8, 8, 8, 8, 8, 8, 8, 8, 8, 8, 8, 8, 8, 8, 8, 8, 8, 8, 8, 8, 8, 8, 8, 8, 8, 8, 8, 8, 8, 8, 8, 8, 8, 8, 8, 8, 8, 8, 8, 8, 8, 8, 8, 8, 8, 8, 8, 8, 8, 8, 8, 8, 8, 8, 8, 8, 8, 8, 8, 8, 8, 8, 8, 8, 8, 8, 8, 8, 8, 8, 8, 8, 8, 8, 8, 8, 8, 8, 8, 8, 8, 8, 8, 8, 8, 8, 8, 8, 8, 8, 8, 8, 8, 8, 8, 8, 8, 8, 8, 8, 8, 8, 8, 8, 8, 8, 8, 8, 8, 8, 8, 8]⟩ : ByteArray) (n.val : Int)).toNat := by decide +kernel
theorem tab_f {c : Int} (h : 1 ≤ c) (h' : c ≤ 255) : ∃ t : Nat, bt (⟨#[0, 1, 2, 2, 3, 3, 3, 3, 4, 4, 4, 4, 4, 4, 4, 4, 5, 5, 5, 5, 5, 5, 5, 5, 5, 5, 5, 5, 5, 5, 5, 5, 6, 6, 6, 6, 6, 6, 6, 6, 6, 6, 6, 6, 6, 6, 6, 6, 6, 6, 6, 6, 6, 6, 6, 6, 6, 6, 6, 6, 6, 6, 6, 6, 7, 7, 7, 7, 7, 7, 7, 7, 7, 7, 7, 7, 7, 7, 7, 7, 7, 7, 7, 7, 7, 7, 7, 7, 7, 7, 7, 7, 7, 7, 7, 7, 7, 7, 7, 7, 7, 7, 7, 7, 7, 7, 7, 7, 7, 7, 7, 7, 7, 7, 7, 7, 7, 7, 7, 7, 7, 7, 7, 7, 7, 7, 7, 7, 8, 8, 8, 8, 8, 8, 8, 8, 8, 8, 8, 8, 8, 8, 8, 8, 8, 8, 8, 8, 8, 8, 8, 8, 8, 8, 8, 8, 8, 8, 8, 8, 8, 8, 8, 8, 8, 8, 8, 8, 8, 8, 8, 8, 8, 8, 8, 8, 8, 8, 8, 8, 8, 8, 8, 8, 8, 8, 8, 8, 8, 8, 8, 8, 8, 8, 8, 8, 8, 8, 8, 8, 8, 8, 8, 8, 8, 8, 8, 8, 8, 8, 8, 8, 8, 8, 8, 8, 8, 8, 8, 8, 8, 8, 8, 8, 8, 8, 8, 8, 8, 8, 8, 8, 8, 8, 8, 8, 8, 8, 8, 8, 8, 8, 8, 8, 8, 8, 8, 8, 8, 8, 8, 8, 8, 8, 8, 8]⟩ : ByteArray) c = (t : Int) ∧ t ≤ 8 ∧ Bits c t := by
  obtain ⟨n, rfl⟩ := Int.eq_ofNat_of_zero_le (show 0 ≤ c by omega)
  obtain ⟨h1, h2, h3, h4, h5⟩ := tab_all ⟨n, by omega⟩ (show 1 ≤ n by omega)
  exact ⟨_, h3, h2, h1, h4, h5⟩
theorem Bits.up {c y : Int} {t : Nat} (h : Bits c t) (m : Nat) (P : Int) (hP : P = 2 ^ m) (h1 : c * P ≤ y) (h2 : y < c * P + P) : Bits y (m + t) := by
  obtain ⟨a, b, e⟩ := h
  have p : 0 < P := by rw [hP]; exact Int.pow_pos (by omega)
  have x1 := Int.mul_le_mul_of_nonneg_right b (Int.le_of_lt p)
  have x2 := Int.mul_le_mul_of_nonneg_right (show c + 1 ≤ 2 ^ t by omega) (Int.le_of_lt p)
  rw [Int.add_mul, Int.one_mul] at x2
  refine ⟨by omega, ?_, ?_⟩
  · rw [show m + t - 1 = (t - 1) + m by omega, Int.pow_add, ← hP]; omega
  · rw [show m + t = t + m by omega, Int.pow_add, ← hP]; omega
theorem len_j {x : Int} (h : 1 ≤ x) (h' : x < 4294967296) (b : Int) (hb : b = 0 ∨ b = 32) (k : Nat) (hk : 1 ≤ k) : ∃ t : Nat, bits_Len64.j0 k x b = some (b + (t : Int)) ∧ t ≤ 32 ∧ Bits x t := by
  obtain ⟨k, rfl⟩ : ∃ q, k = q + 1 := ⟨k - 1, by omega⟩
  rw [bits_Len64.j0]
  by_cases c1 : x ≥ 65536
  · rw [if_pos c1]
    by_cases c2 : x / 65536 ≥ 256
    · rw [if_pos c2, if_pos (by omega), if_pos (by omega)]
      obtain ⟨t, h1, h2, h3⟩ := tab_f (c := x / 65536 / 256 % 256) (by omega) (by omega)
      rw [h1, w64 (x := (t : Int)) (by omega) (by omega), w64 (x := b + 16) (by omega) (by omega), w64 (x := b + 16 + 8) (by omega) (by omega), w64 (by omega) (by omega)]
      exact ⟨24 + t, congrArg some (by omega), by omega, h3.up 24 16777216 (by decide) (by omega) (by omega)⟩
    · rw [if_neg c2, if_pos (by omega), if_pos (by omega)]
      obtain ⟨t, h1, h2, h3⟩ := tab_f (c := x / 65536 % 256) (by omega) (by omega)
      rw [h1, w64 (x := (t : Int)) (by omega) (by omega), w64 (x := b + 16) (by omega) (by omega), w64 (by omega) (by omega)]
      exact ⟨16 + t, congrArg some (by omega), by omega, h3.up 16 65536 (by decide) (by omega) (by omega)⟩
  · rw [if_neg c1]
    by_cases c2 : x ≥ 256
    · rw [if_pos c2, if_pos (by omega), if_pos (by omega)]
      obtain ⟨t, h1, h2, h3⟩ := tab_f (c := x / 256 % 256) (by omega) (by omega)
      rw [h1, w64 (x := (t : Int)) (by omega) (by omega), w64 (x := b + 8) (by omega) (by omega), w64 (by omega) (by omega)]
      exact ⟨8 + t, congrArg some (by omega), by omega, h3.up 8 256 (by decide) (by omega) (by omega)⟩
    · rw [if_neg c2, if_pos (by omega), if_pos (by omega)]
      obtain ⟨t, h1, h2, h3⟩ := tab_f (c := x % 256) (by omega) (by omega)
      rw [h1, w64 (x := (t : Int)) (by omega) (by omega), w64 (by omega) (by omega)]
      rw [show x % 256 = x by omega] at h3
      exact ⟨t, rfl, by omega, h3⟩
theorem len_f {y : Int} (h : 1 ≤ y) (h' : y < 18446744073709551616) (k : Nat) (hk : 1 ≤ k) : ∃ t : Nat, bits_Len64.f k y = some (t : Int) ∧ t ≤ 64 ∧ Bits y t := by
  unfold bits_Len64.f
  by_cases c : y ≥ 4294967296
  · rw [if_pos c]
    obtain ⟨t, h1, h2, h3⟩ := len_j (x := y / 4294967296) (by omega) (by omega) 32 (Or.inr rfl) k hk
    rw [h1]
    exact ⟨32 + t, congrArg some (by omega), by omega, h3.up 32 4294967296 (by decide) (by omega) (by omega)⟩
  · rw [if_neg c]
    obtain ⟨t, h1, h2, h3⟩ := len_j (x := y) h (by omega) 0 (Or.inl rfl) k hk
    rw [h1]
    exact ⟨t, congrArg some (by omega), by omega, h3⟩
theorem or_add {x s : Int} {m : Nat} (hx : 0 ≤ x) (hs : 0 ≤ s) (hs' : s < 2 ^ m) (hb : x * 2 ^ m + s < 18446744073709551616) : Go.bits .or .u64 (x * 2 ^ m) s = x * 2 ^ m + s := by
  obtain ⟨a, rfl⟩ := Int.eq_ofNat_of_zero_le hx
  obtain ⟨b, rfl⟩ := Int.eq_ofNat_of_zero_le hs
  have e : ((a : Int) * 2 ^ m) = ((a * 2 ^ m : Nat) : Int) := by rw [Int.natCast_mul, Int.natCast_pow]; rfl
  have hb2 : b < 2 ^ m := by
    have : ((2 : Int) ^ m) = ((2 ^ m : Nat) : Int) := by rw [Int.natCast_pow]; rfl
    rw [this] at hs'
    omega
  rw [e] at hb ⊢
  rw [bits_or_u64_nat _ _ (by omega) (by omega)]
  have := Nat.shiftLeft_add_eq_or_of_lt hb2 a
  rw [Nat.shiftLeft_eq] at this
  rw [← this]
  omega
/-- Two words divided by one: how often it is in them, and what is left. -/
theorem div64 {a0 a1 a2 : Int} (h0 : 0 ≤ a0) (h01 : a0 < a2) (h1 : 0 ≤ a1) (h1' : a1 < 18446744073709551616) (h2 : a2 < 18446744073709551616) (k : Nat) (hk : 30 ≤ k) :
    ∃ Q R : Int, bits_Div64.f k a0 a1 a2 = some (Q, R) ∧ 0 ≤ Q ∧ Q < 18446744073709551616 ∧ 0 ≤ R ∧ R < a2 ∧ a0 * 18446744073709551616 + a1 = Q * a2 + R := by
  unfold bits_Div64.f
  rw [if_neg (by omega), if_neg (by omega)]
  by_cases c : a0 = 0
  · rw [if_pos c, Int.tdiv_eq_ediv_of_nonneg h1, u64w, Int.tmod_eq_emod_of_nonneg h1]
    have q0 := Int.ediv_nonneg h1 (show 0 ≤ a2 by omega)
    have q1 : a1 / a2 ≤ a1 := Int.ediv_le_self _ h1
    refine ⟨a1 / a2, a1 % a2, ?_, q0, by omega, Int.emod_nonneg _ (by omega), Int.emod_lt_of_pos _ (by omega), ?_⟩
    · rw [Int.emod_eq_of_lt q0 (by omega)]
    · rw [Int.emod_def, Int.mul_comm a2]
      generalize a1 / a2 * a2 = z
      omega
  · rw [if_neg c]
    unfold bits_LeadingZeros64.f
    obtain ⟨n, e1, e2, n1, lo, hi⟩ := len_f (y := a2) (by omega) h2 k (by omega)
    rw [e1]
    simp only [Option.bind_some]
    rw [w64 (x := 64 - (n : Int)) (by omega) (by omega)]
    simp only [u64w]
    obtain ⟨s, hs⟩ : ∃ s : Nat, s + n = 64 := ⟨64 - n, by omega⟩
    rw [show (64 - (n : Int)) % 18446744073709551616 = (s : Int) by omega, show (64 - (s : Int)) % 18446744073709551616 = (n : Int) by omega, if_pos (by omega), if_pos (by omega)]
    obtain ⟨S, hS⟩ : ∃ S : Int, S = 2 ^ s := ⟨_, rfl⟩
    obtain ⟨T, hT⟩ : ∃ T : Int, T = 2 ^ n := ⟨_, rfl⟩
    have hST : S * T = 18446744073709551616 := by rw [hS, hT, ← Int.pow_add, hs]; rfl
    have hS0 : 0 < S := by rw [hS]; exact Int.pow_pos (by omega)
    have hT0 : 0 < T := by rw [hT]; exact Int.pow_pos (by omega)
    have hT1 : T = 2 ^ (n - 1) * 2 := by rw [hT, ← Int.pow_succ, show (n - 1).succ = n by omega]
    have m1 : min ((s : Int).toNat) 64 = s := by omega
    have m2 : min ((n : Int).toNat) 64 = n := by omega
    have sh : ∀ x, shl .u64 x (s : Int) = x * S % 18446744073709551616 := by
      intro x
      unfold shl
      rw [u64w, show (IntKind.u64).bits = 64 from rfl, m1, hS]
    have sr : ∀ x, shr .u64 x (n : Int) = x / T := by
      intro x
      unfold shr
      rw [show (IntKind.u64).bits = 64 from rfl, m2, hT]
    have sr2 : ∀ x, shr .u64 x (s : Int) = x / S := by
      intro x
      unfold shr
      rw [show (IntKind.u64).bits = 64 from rfl, m1, hS]
    simp only [sh, sr]
    rw [← hT] at hi
    have y0 : 0 ≤ a2 * S := Int.mul_nonneg (by omega) (by omega)
    have y1 : a2 * S < 18446744073709551616 := by
      rw [← hST, Int.mul_comm S T]
      exact Int.mul_lt_mul_of_pos_right hi hS0
    have y2 : 9223372036854775808 ≤ a2 * S := by
      have := Int.mul_le_mul_of_nonneg_right lo (Int.le_of_lt hS0)
      rw [hT1, Int.mul_comm S, Int.mul_right_comm] at hST
      generalize (2 : Int) ^ (n - 1) * S = z at *
      omega
    have x1 := Int.mul_le_mul_of_nonneg_right (show a0 + 1 ≤ a2 by omega) (Int.le_of_lt hS0)
    rw [Int.add_mul, Int.one_mul] at x1
    have x0 : 0 ≤ a0 * S := Int.mul_nonneg h0 (by omega)
    have z0 := Int.ediv_nonneg h1 (Int.le_of_lt hT0)
    have z1 : a1 / T < S := Int.ediv_lt_of_lt_mul hT0 (by rw [hST]; exact h1')
    have w0 := Int.emod_nonneg a1 (show T ≠ 0 by omega)
    have w1 := Int.emod_lt_of_pos a1 hT0
    have wd := Int.emod_def a1 T
    have v0 : 0 ≤ a1 % T * S := Int.mul_nonneg w0 (by omega)
    have v1 : a1 % T * S < 18446744073709551616 := by
      rw [← hST, Int.mul_comm S T]
      exact Int.mul_lt_mul_of_pos_right w1 hS0
    have ea : a1 * S = a1 / T * 18446744073709551616 + a1 % T * S := by
      rw [← hST, wd, Int.sub_mul, Int.mul_comm T (a1 / T), Int.mul_assoc (a1 / T) T S, Int.mul_comm T S]
      omega
    have el : a1 * S % 18446744073709551616 = a1 % T * S := by
      rw [ea]
      generalize a1 % T * S = z at *
      generalize a1 / T = z' at *
      omega
    have eo : Go.bits .or .u64 (a0 * S) (a1 / T) = a0 * S + a1 / T := by
      have := or_add (x := a0) (s := a1 / T) (m := s) h0 z0 (by rw [← hS]; exact z1) (by rw [← hS]; omega)
      rw [← hS] at this
      exact this
    rw [Int.emod_eq_of_lt y0 y1, Int.emod_eq_of_lt x0 (by omega), el, eo]
    obtain ⟨Y, hY⟩ : ∃ Y, Y = a2 * S := ⟨_, rfl⟩
    obtain ⟨u, hu⟩ : ∃ u, u = a0 * S + a1 / T := ⟨_, rfl⟩
    obtain ⟨L, hL⟩ : ∃ L, L = a1 % T * S := ⟨_, rfl⟩
    have tot : u * 18446744073709551616 + L = (a0 * 18446744073709551616 + a1) * S := by
      rw [hu, hL, Int.add_mul (a0 * 18446744073709551616) a1 S, ea, Int.add_mul, Int.mul_right_comm a0]
      omega
    rw [← hY, ← hu, ← hL]
    rw [← hY] at y0 y1 y2 x1
    rw [← hL] at v0 v1
    rw [and32 y0 y1, and32 v0 v1, if_neg (by omega)]
    have h : Half (Y / 4294967296) (Y % 4294967296) u (L / 4294967296) := ⟨by omega, by omega, by omega, by omega, by omega, by omega, by omega, by omega⟩
    have g := h.first
    have t1 : Int.tdiv u (Y / 4294967296) % 18446744073709551616 = u / (Y / 4294967296) := by
      rw [Int.tdiv_eq_ediv_of_nonneg h.u0]
      have := g.q0
      have := g.q1
      generalize u / (Y / 4294967296) = z at *
      omega
    have t2 : (u - u / (Y / 4294967296) * (Y / 4294967296) % 18446744073709551616) % 18446744073709551616 = u - u / (Y / 4294967296) * (Y / 4294967296) := by
      have := g.r0
      have := g.r1
      have := mul_le g.q0 g.q1 (show 0 ≤ Y / 4294967296 by omega) h.a1
      generalize u / (Y / 4294967296) * (Y / 4294967296) = z at *
      omega
    rw [t1, t2]
    obtain ⟨p, q, r, e, p0, p1, q0, q1, r0, r1, er⟩ := both (s : Int) (L % 4294967296) (by omega) h (by omega) (by omega) k (by omega)
    have eY : Y / 4294967296 * 4294967296 + Y % 4294967296 = Y := by omega
    rw [eY] at e r1 er
    rw [e, sr2]
    have er2 : (a0 * 18446744073709551616 + a1) * S = (p * 4294967296 + q) * Y + r := by rw [← tot, ← er]; omega
    obtain ⟨Q, hQ⟩ : ∃ Q, Q = p * 4294967296 + q := ⟨_, rfl⟩
    rw [← hQ] at er2
    obtain ⟨R, hR⟩ : ∃ R, R = a0 * 18446744073709551616 + a1 - Q * a2 := ⟨_, rfl⟩
    have eR : r = R * S := by
      rw [hR, Int.sub_mul, er2, hY, Int.mul_assoc]
      omega
    have R0 : 0 ≤ R := by
      by_cases z : 0 ≤ R
      · exact z
      · have := Int.mul_le_mul_of_nonneg_right (show R + 1 ≤ 0 by omega) (Int.le_of_lt hS0)
        rw [Int.add_mul, Int.one_mul, Int.zero_mul] at this
        omega
    have R1 : R < a2 := by
      by_cases z : R < a2
      · exact z
      · have := Int.mul_le_mul_of_nonneg_right (show a2 ≤ R by omega) (Int.le_of_lt hS0)
        omega
    have Q1 : Q < 18446744073709551616 := by
      by_cases z : Q < 18446744073709551616
      · exact z
      · have := Int.mul_le_mul_of_nonneg_right (show 18446744073709551616 ≤ Q by omega) (show 0 ≤ a2 by omega)
        omega
    refine ⟨Q, R, ?_, by omega, Q1, R0, R1, by omega⟩
    rw [eR, Int.mul_ediv_cancel R (show S ≠ 0 by omega), show (p * 4294967296 % 18446744073709551616 + q) % 18446744073709551616 = Q by omega]
end Go.Proofs.Ytkebkghhncelpaa.Plain
