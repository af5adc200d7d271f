/- What the document's root is; no conditions. -/
import Derived.Test.YtkebkghhncelpaaFixG
import Derived.Test.YtkebkghhncelpaaAx15
namespace Go.Proofs.Ytkebkghhncelpaa.Plain
open Go.RowKit Go.Proofs.Ytkebkghhncelpaa.A Go.Proofs.YtkebkghhncelpaaW.PrintWords Go.Proofs.YtkebkghhncelpaaW.PrintLast Go.Proofs.YtkebkghhncelpaaW.PrintMore
set_option linter.unusedVariables false
set_option linter.unusedSimpArgs false

theorem rsqrt_end {a x : Int} (k : Nat) (hx : 0 ≤ x) (h1 : x < 281474976710656) (h2 : x * x ≤ a * 4294967296) (h3 : a * 4294967296 < (x + 1) * (x + 1)) (hk : 1 ≤ k) : ∃ r, fullerref01_Sqrt.l0 k a x 0 = some (r, 0) ∧ Root a r := by
  obtain ⟨k, rfl⟩ : ∃ q, k = q + 1 := ⟨k - 1, by omega⟩
  rw [fullerref01_Sqrt.l0, if_neg (by omega), w64 (by omega) (by omega)]
  exact ⟨x, rfl, hx, h1, h2, h3⟩
theorem rsqrt_l0 {a : Int} (h0 : 0 ≤ a) (h1 : a ≤ 9223372036854775807) (e : Nat) : ∀ (k : Nat) (x B : Int), B = 2 ^ e → 0 ≤ x → x + 2 * B ≤ 281474976710656 → x * x ≤ a * 4294967296 → a * 4294967296 < (x + 2 * B) * (x + 2 * B) → e + 2 ≤ k →
    ∃ r, fullerref01_Sqrt.l0 k a x B = some (r, 0) ∧ Root a r := by
  induction e with
  | zero =>
    intro k x B hB hx hb h2 h3 hk
    obtain ⟨k, rfl⟩ : ∃ q, k = q + 1 := ⟨k - 1, by omega⟩
    have B1 : 1 ≤ B := by rw [hB]; exact Int.pow_pos (by omega)
    rw [fullerref01_Sqrt.l0, if_pos (by omega)]
    simp only [u64w]
    rw [show (x + B) % 18446744073709551616 = x + B by omega, rwide_f (by omega) (by omega) (by omega) (by omega)]
    simp only [Option.bind_some]
    rw [Int.tdiv_eq_ediv_of_nonneg h0, Int.tmod_eq_emod_of_nonneg h0, Int.tdiv_eq_ediv_of_nonneg (show 0 ≤ B by omega)]
    have mm := mul_le (a := x + B) (b := x + B) (A := 281474976710656) (B := 281474976710656) (by omega) (by omega) (by omega) (by omega)
    have b1 : B = 1 := by rw [hB]; rfl
    have hh : B / 2 % 18446744073709551616 = 0 := by omega
    rw [hh]
    have up : (x + B) * (x + B) ≤ a * 4294967296 → ∃ r, fullerref01_Sqrt.l0 k a (x + B) 0 = some (r, 0) ∧ Root a r := fun q => rsqrt_end k (by omega) (by omega) q (by rw [show x + B + 1 = x + 2 * B by omega]; exact h3) (by omega)
    have dn : a * 4294967296 < (x + B) * (x + B) → ∃ r, fullerref01_Sqrt.l0 k a x 0 = some (r, 0) ∧ Root a r := fun q => rsqrt_end k hx (by omega) h2 (by rw [b1] at q; exact q) (by omega)
    generalize (x + B) * (x + B) = S at mm up dn ⊢
    by_cases c1 : S / 18446744073709551616 < a / 4294967296 % 18446744073709551616
    · rw [if_pos c1]; exact up (by omega)
    · rw [if_neg c1]
      by_cases c2 : S / 18446744073709551616 = a / 4294967296 % 18446744073709551616
      · rw [if_pos c2]
        by_cases c3 : S % 18446744073709551616 ≤ a % 4294967296 * 4294967296 % 18446744073709551616
        · rw [if_pos c3]; exact up (by omega)
        · rw [if_neg c3]; exact dn (by omega)
      · rw [if_neg c2]; exact dn (by omega)
  | succ e ih =>
    intro k x B hB hx hb h2 h3 hk
    obtain ⟨k, rfl⟩ : ∃ q, k = q + 1 := ⟨k - 1, by omega⟩
    have B1 : 1 ≤ B := by rw [hB]; exact Int.pow_pos (by omega)
    rw [fullerref01_Sqrt.l0, if_pos (by omega)]
    simp only [u64w]
    rw [show (x + B) % 18446744073709551616 = x + B by omega, rwide_f (by omega) (by omega) (by omega) (by omega)]
    simp only [Option.bind_some]
    rw [Int.tdiv_eq_ediv_of_nonneg h0, Int.tmod_eq_emod_of_nonneg h0, Int.tdiv_eq_ediv_of_nonneg (show 0 ≤ B by omega)]
    have mm := mul_le (a := x + B) (b := x + B) (A := 281474976710656) (B := 281474976710656) (by omega) (by omega) (by omega) (by omega)
    obtain ⟨C, hC⟩ : ∃ C : Int, C = 2 ^ e := ⟨_, rfl⟩
    have bC : B = 2 * C := by rw [hB, hC, Int.pow_succ, Int.mul_comm]
    have hh : B / 2 % 18446744073709551616 = C := by omega
    rw [hh]
    have up : (x + B) * (x + B) ≤ a * 4294967296 → ∃ r, fullerref01_Sqrt.l0 k a (x + B) C = some (r, 0) ∧ Root a r := fun q => ih k (x + B) C hC (by omega) (by omega) q (by rw [show x + B + 2 * C = x + 2 * B by omega]; exact h3) (by omega)
    have dn : a * 4294967296 < (x + B) * (x + B) → ∃ r, fullerref01_Sqrt.l0 k a x C = some (r, 0) ∧ Root a r := fun q => ih k x C hC hx (by omega) h2 (by rw [← bC]; exact q) (by omega)
    generalize (x + B) * (x + B) = S at mm up dn ⊢
    by_cases c1 : S / 18446744073709551616 < a / 4294967296 % 18446744073709551616
    · rw [if_pos c1]; exact up (by omega)
    · rw [if_neg c1]
      by_cases c2 : S / 18446744073709551616 = a / 4294967296 % 18446744073709551616
      · rw [if_pos c2]
        by_cases c3 : S % 18446744073709551616 ≤ a % 4294967296 * 4294967296 % 18446744073709551616
        · rw [if_pos c3]; exact up (by omega)
        · rw [if_neg c3]; exact dn (by omega)
      · rw [if_neg c2]; exact dn (by omega)
theorem rsqrt_f {a : Int} (h0 : 0 ≤ a) (h1 : a ≤ 9223372036854775807) (k : Nat) (hk : 50 ≤ k) : ∃ r, fullerref01_Sqrt.f k a = some (r, 0) ∧ Root a r := by
  unfold fullerref01_Sqrt.f
  rw [if_neg (by omega), u64w, show a % 18446744073709551616 = a by omega]
  exact rsqrt_l0 h0 h1 47 k 0 140737488355328 (by decide) (by omega) (by omega) (by omega) (by omega) (by omega)
end Go.Proofs.Ytkebkghhncelpaa.Plain
