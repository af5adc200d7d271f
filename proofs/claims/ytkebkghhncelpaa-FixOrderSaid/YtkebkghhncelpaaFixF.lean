/- What the document's functions of layer 1 answer; no conditions. -/
import Derived.Test.YtkebkghhncelpaaFixE
import Derived.Test.YtkebkghhncelpaaAx12
import Derived.Test.YtkebkghhncelpaaAx15
namespace Go.Proofs.Ytkebkghhncelpaa.Plain
open Go.RowKit Go.Proofs.Ytkebkghhncelpaa.A Go.Proofs.YtkebkghhncelpaaW.PrintWords Go.Proofs.YtkebkghhncelpaaW.PrintLast Go.Proofs.YtkebkghhncelpaaW.PrintMore
set_option linter.unusedVariables false
set_option linter.unusedSimpArgs false

theorem radd_f {a b : Int} (ha : -9223372036854775808 ≤ a) (ha' : a ≤ 9223372036854775807) (hb : -9223372036854775808 ≤ b) (hb' : b ≤ 9223372036854775807) : fullerref01_Add.f a b = some (inw (a + b)) := by
  unfold fullerref01_Add.f
  by_cases p : b > 0
  · rw [if_pos p, w64 (x := 9223372036854775807 - b) (by omega) (by omega), if_neg (show ¬ b < 0 by omega)]
    by_cases c : a > 9223372036854775807 - b
    · rw [if_pos c, inw_out (by omega)]
    · rw [if_neg c, inw_in (by omega) (by omega), w64 (by omega) (by omega)]
  · rw [if_neg p]
    by_cases n : b < 0
    · rw [if_pos n, w64 (x := -9223372036854775808 - b) (by omega) (by omega)]
      by_cases c : a < -9223372036854775808 - b
      · rw [if_pos c, inw_out (by omega)]
      · rw [if_neg c, inw_in (by omega) (by omega), w64 (by omega) (by omega)]
    · rw [if_neg n, inw_in (by omega) (by omega), w64 (by omega) (by omega)]
theorem rsub_f {a b : Int} (ha : -9223372036854775808 ≤ a) (ha' : a ≤ 9223372036854775807) (hb : -9223372036854775808 ≤ b) (hb' : b ≤ 9223372036854775807) : fullerref01_Sub.f a b = some (inw (a - b)) := by
  unfold fullerref01_Sub.f
  by_cases p : b < 0
  · rw [if_pos p, w64 (x := 9223372036854775807 + b) (by omega) (by omega), if_neg (show ¬ b > 0 by omega)]
    by_cases c : a > 9223372036854775807 + b
    · rw [if_pos c, inw_out (by omega)]
    · rw [if_neg c, inw_in (by omega) (by omega), w64 (by omega) (by omega)]
  · rw [if_neg p]
    by_cases n : b > 0
    · rw [if_pos n, w64 (x := -9223372036854775808 + b) (by omega) (by omega)]
      by_cases c : a < -9223372036854775808 + b
      · rw [if_pos c, inw_out (by omega)]
      · rw [if_neg c, inw_in (by omega) (by omega), w64 (by omega) (by omega)]
    · rw [if_neg n, inw_in (by omega) (by omega), w64 (by omega) (by omega)]
theorem rneg_f {a : Int} (ha : -9223372036854775808 ≤ a) (ha' : a ≤ 9223372036854775807) : fullerref01_Neg.f a = some (inw (-a)) := by
  unfold fullerref01_Neg.f
  by_cases c : a = -9223372036854775808
  · rw [if_pos c, inw_out (by omega)]
  · rw [if_neg c, inw_in (by omega) (by omega), w64 (by omega) (by omega)]
theorem rsize_f {a : Int} (h : -9223372036854775808 ≤ a) (h' : a ≤ 9223372036854775807) : fullerref01_size.f a = some (if a < 0 then -a else a) := by
  unfold fullerref01_size.f
  simp only [u64w]
  by_cases c : a < 0
  · rw [if_pos c, if_pos c, w64 (x := a + 1) (by omega) (by omega), w64 (by omega) (by omega)]
    exact congrArg some (by omega)
  · rw [if_neg c, if_neg c]
    exact congrArg some (by omega)
theorem rwide_f {a b : Int} (ha : 0 ≤ a) (ha' : a < 18446744073709551616) (hb : 0 ≤ b) (hb' : b < 18446744073709551616) :
    fullerref01_Wide.f a b = some (a * b / 18446744073709551616, a * b % 18446744073709551616) := by
  unfold fullerref01_Wide.f
  simp only [u64w]
  rw [Int.tdiv_eq_ediv_of_nonneg ha, Int.tdiv_eq_ediv_of_nonneg hb, Int.tmod_eq_emod_of_nonneg ha, Int.tmod_eq_emod_of_nonneg hb]
  obtain ⟨x, hx⟩ : ∃ x, x = a / 4294967296 := ⟨_, rfl⟩
  obtain ⟨y, hy⟩ : ∃ y, y = a % 4294967296 := ⟨_, rfl⟩
  obtain ⟨u, hu⟩ : ∃ u, u = b / 4294967296 := ⟨_, rfl⟩
  obtain ⟨v, hv⟩ : ∃ v, v = b % 4294967296 := ⟨_, rfl⟩
  have ea : a = x * 4294967296 + y := by omega
  have eb : b = u * 4294967296 + v := by omega
  rw [← hx, ← hy, ← hu, ← hv]
  have bx : 0 ≤ x ∧ x ≤ 4294967295 := by omega
  have byy : 0 ≤ y ∧ y ≤ 4294967295 := by omega
  have bu : 0 ≤ u ∧ u ≤ 4294967295 := by omega
  have bv : 0 ≤ v ∧ v ≤ 4294967295 := by omega
  have m1 := mul_le bx.1 bx.2 bu.1 bu.2
  have m2 := mul_le bx.1 bx.2 bv.1 bv.2
  have m3 := mul_le byy.1 byy.2 bu.1 bu.2
  have m4 := mul_le byy.1 byy.2 bv.1 bv.2
  have e : a * b = x * u * 18446744073709551616 + (x * v + y * u) * 4294967296 + y * v := by
    have a1 : x * 4294967296 * (u * 4294967296) = x * u * 18446744073709551616 := by rw [Int.mul_assoc, Int.mul_left_comm 4294967296 u, ← Int.mul_assoc x u, show (4294967296 : Int) * 4294967296 = 18446744073709551616 from rfl]
    have a2 : x * 4294967296 * v = x * v * 4294967296 := Int.mul_right_comm x 4294967296 v
    have a3 : y * (u * 4294967296) = y * u * 4294967296 := (Int.mul_assoc y u 4294967296).symm
    have a4 : (x * 4294967296 + y) * (u * 4294967296 + v) = x * 4294967296 * (u * 4294967296) + x * 4294967296 * v + (y * (u * 4294967296) + y * v) := by rw [Int.add_mul, Int.mul_add, Int.mul_add]
    rw [ea, eb, a4, a1, a2, a3]
    omega
  rw [e]
  have x1 : x % 18446744073709551616 = x := by omega
  have u1 : u % 18446744073709551616 = u := by omega
  rw [x1, u1]
  generalize x * u = p at m1 ⊢
  generalize x * v = q at m2 ⊢
  generalize y * u = r at m3 ⊢
  generalize y * v = s at m4 ⊢
  clear e ea eb hx hy hu hv ha ha' hb hb' bx byy bu bv x1 u1
  have q1 : q % 18446744073709551616 = q := by omega
  have r1 : r % 18446744073709551616 = r := by omega
  have s1 : s % 18446744073709551616 = s := by omega
  rw [q1, r1, s1]
  rw [Int.tdiv_eq_ediv_of_nonneg m2.1, Int.tdiv_eq_ediv_of_nonneg m3.1, Int.tdiv_eq_ediv_of_nonneg m4.1, Int.tmod_eq_emod_of_nonneg m2.1, Int.tmod_eq_emod_of_nonneg m3.1, Int.tmod_eq_emod_of_nonneg m4.1]
  have z1 : ((s / 4294967296 % 18446744073709551616 + q % 4294967296) % 18446744073709551616 + r % 4294967296) % 18446744073709551616 = s / 4294967296 + q % 4294967296 + r % 4294967296 := by omega
  rw [z1, Int.tdiv_eq_ediv_of_nonneg (show 0 ≤ s / 4294967296 + q % 4294967296 + r % 4294967296 by omega), Int.tmod_eq_emod_of_nonneg (show 0 ≤ s / 4294967296 + q % 4294967296 + r % 4294967296 by omega)]
  refine congrArg some (Prod.ext ?_ ?_)
  · show _ = (p * 18446744073709551616 + (q + r) * 4294967296 + s) / 18446744073709551616
    omega
  · show _ = (p * 18446744073709551616 + (q + r) * 4294967296 + s) % 18446744073709551616
    omega
end Go.Proofs.Ytkebkghhncelpaa.Plain
