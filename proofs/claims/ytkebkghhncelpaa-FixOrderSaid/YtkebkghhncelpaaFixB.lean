/- What a root is; no conditions. -/
import Derived.Test.YtkebkghhncelpaaFixA
import Derived.Test.YtkebkghhncelpaaAx6
import Derived.Test.YtkebkghhncelpaaAx5
import Derived.Test.YtkebkghhncelpaaAx10
namespace Go.Proofs.Ytkebkghhncelpaa.Plain
open Go.RowKit Go.Proofs.Ytkebkghhncelpaa.A Go.Proofs.YtkebkghhncelpaaW.PrintWords Go.Proofs.YtkebkghhncelpaaW.PrintLast Go.Proofs.YtkebkghhncelpaaW.PrintMore
set_option linter.unusedVariables false
set_option linter.unusedSimpArgs false

theorem awake_f (k : Nat) (hk : 100 ≤ k) : fullerlaw01_awake.f k = some true := at_rounds fullerlaw01_awake.mono hk (by decide +kernel)
theorem sub64_f {x y b : Int} (hx : 0 ≤ x) (hy : 0 ≤ y) (hy' : y < 18446744073709551616) (hb : b = 0 ∨ b = 1) : ∃ d, bits_Sub64.f x y b = some (d, if x < y + b then 1 else 0) := by
  unfold bits_Sub64.f
  rw [if_pos (by omega)]
  exact ⟨_, rfl⟩
theorem div_small {a b : Int} (ha : 0 ≤ a) (ha' : a ≤ 2147483647) (hb : 0 < b) (hb' : b ≤ 9223372036854775807) (k : Nat) : fix_Div.f k a b = some (a * 4294967296 / b, 0) := by
  unfold fix_Div.f
  rw [if_neg (by omega), size_f (by omega) (by omega), size_f (by omega) (by omega), apart_f]
  simp only [Option.bind_some]
  rw [if_neg (show ¬ a < 0 by omega), if_neg (show ¬ b < 0 by omega), if_neg (by omega)]
  have e0 : a / 4294967296 = 0 := by omega
  have e1 : Int.tmod 0 b = 0 := Int.zero_tmod b
  have e2 : Int.tdiv 0 b = 0 := Int.zero_tdiv b
  have q0 := Int.ediv_nonneg (show (0 : Int) ≤ a * 4294967296 by omega) (show (0 : Int) ≤ b by omega)
  have q3 : a * 4294967296 / b ≤ a * 4294967296 := Int.ediv_le_self _ (by omega)
  rw [e0, e1, e2, u64w, show a * 4294967296 % 18446744073709551616 = a * 4294967296 by omega]
  unfold bits_Div64.f
  rw [if_neg (by omega), if_neg (by omega), if_pos rfl, Int.tdiv_eq_ediv_of_nonneg (by omega), u64w]
  simp only [Option.bind_some]
  have e3 : a * 4294967296 / b % 18446744073709551616 = a * 4294967296 / b := by
    generalize a * 4294967296 / b = q at q0 q3 ⊢
    omega
  rw [e3, if_pos q0, u64w]
  have ap : (decide (a ≠ 0 ∧ b ≠ 0) && (decide (a < 0) != decide (b < 0))) = false := by
    rw [decide_eq_false (show ¬ a < 0 by omega), decide_eq_false (show ¬ b < 0 by omega)]; simp
  rw [ap]
  unfold wsig
  simp only [Bool.false_eq_true, if_false]
  generalize a * 4294967296 / b = q at q0 q3 ⊢
  rw [if_neg (by omega), w64 (by omega) (by omega)]
/-- Is a root of a. -/
def Root (a r : Int) : Prop := 0 ≤ r ∧ r < 281474976710656 ∧ r * r ≤ a * 4294967296 ∧ a * 4294967296 < (r + 1) * (r + 1)
theorem sqrt_l0 {a : Int} (h0 : 0 ≤ a) (h1 : a ≤ 9223372036854775807) (e : Nat) : ∀ (k : Nat) (x y : Int), 0 ≤ x → x < y → y ≤ 281474976710656 → x * x ≤ a * 4294967296 → a * 4294967296 < y * y → y - x ≤ 2 ^ e → e + 1 ≤ k →
    ∃ r, fix_Sqrt.l0 k a x y = some (r, 0) ∧ Root a r := by
  induction e with
  | zero =>
    intro k x y hx hxy hy h2 h3 h4 hk
    obtain ⟨k, rfl⟩ : ∃ q, k = q + 1 := ⟨k - 1, by omega⟩
    have hy1 : y = x + 1 := by simp at h4; omega
    subst hy1
    rw [fix_Sqrt.l0, u64w, if_neg (by omega), w64 (by omega) (by omega)]
    exact ⟨x, rfl, hx, by omega, h2, h3⟩
  | succ e ih =>
    intro k x y hx hxy hy h2 h3 h4 hk
    obtain ⟨k, rfl⟩ : ∃ q, k = q + 1 := ⟨k - 1, by omega⟩
    by_cases c : y - x ≤ 1
    · have hy1 : y = x + 1 := by omega
      subst hy1
      rw [fix_Sqrt.l0, u64w, if_neg (by omega), w64 (by omega) (by omega)]
      exact ⟨x, rfl, hx, by omega, h2, h3⟩
    · rw [fix_Sqrt.l0]
      simp only [u64w]
      rw [if_pos (by omega)]
      have em : Int.tdiv ((x + y) % 18446744073709551616) 2 % 18446744073709551616 = (x + y) / 2 := by
        rw [Int.tdiv_eq_ediv_of_nonneg (by omega)]
        omega
      rw [em]
      obtain ⟨m, hm⟩ : ∃ m, m = (x + y) / 2 := ⟨_, rfl⟩
      rw [← hm]
      have p : (2 : Int) ^ (e + 1) = 2 ^ e * 2 := Int.pow_succ 2 e
      rw [p] at h4
      generalize (2 : Int) ^ e = P at h4 ih
      have bm : 0 ≤ m ∧ m ≤ 281474976710656 := by omega
      rw [mul64 bm.1 (by omega) bm.1 (by omega)]
      simp only [Option.bind_some]
      have mm := mul_le bm.1 bm.2 bm.1 bm.2
      have ea : a % 18446744073709551616 * 4294967296 % 18446744073709551616 = a * 4294967296 % 18446744073709551616 := by omega
      have eb : a % 18446744073709551616 / 4294967296 = a * 4294967296 / 18446744073709551616 := by omega
      rw [ea, eb]
      have hgoal : ∀ S : Int, S = m * m → (a * 4294967296 < S → ∃ r, fix_Sqrt.l0 k a x m = some (r, 0) ∧ Root a r) ∧ (S ≤ a * 4294967296 → ∃ r, fix_Sqrt.l0 k a m y = some (r, 0) ∧ Root a r) := by
        intro S hS
        subst hS
        exact ⟨fun q => ih k x m hx (by omega) (by omega) h2 q (by omega) (by omega), fun q => ih k m y (by omega) (by omega) hy q h3 (by omega) (by omega)⟩
      have hg := hgoal _ rfl
      clear hgoal ih h2 h3
      generalize m * m = S at mm hg ⊢
      obtain ⟨d, hd⟩ := sub64_f (x := a * 4294967296 % 18446744073709551616) (y := S % 18446744073709551616) (b := 0) (by omega) (by omega) (by omega) (Or.inl rfl)
      rw [hd]
      simp only [Option.bind_some, Int.add_zero]
      by_cases c1 : a * 4294967296 % 18446744073709551616 < S % 18446744073709551616
      · rw [if_pos c1]
        obtain ⟨d2, hd2⟩ := sub64_f (x := a * 4294967296 / 18446744073709551616) (y := S / 18446744073709551616) (b := 1) (by omega) (by omega) (by omega) (Or.inr rfl)
        rw [hd2]
        simp only [Option.bind_some]
        by_cases c2 : a * 4294967296 / 18446744073709551616 < S / 18446744073709551616 + 1
        · rw [if_pos c2, if_pos (by decide)]; exact hg.1 (by omega)
        · rw [if_neg c2, if_neg (by decide)]; exact hg.2 (by omega)
      · rw [if_neg c1]
        obtain ⟨d2, hd2⟩ := sub64_f (x := a * 4294967296 / 18446744073709551616) (y := S / 18446744073709551616) (b := 0) (by omega) (by omega) (by omega) (Or.inl rfl)
        rw [hd2]
        simp only [Option.bind_some, Int.add_zero]
        by_cases c2 : a * 4294967296 / 18446744073709551616 < S / 18446744073709551616
        · rw [if_pos c2, if_pos (by decide)]; exact hg.1 (by omega)
        · rw [if_neg c2, if_neg (by decide)]; exact hg.2 (by omega)
theorem sqrt_f {a : Int} (h0 : 0 ≤ a) (h1 : a ≤ 9223372036854775807) (k : Nat) (hk : 49 ≤ k) : ∃ r, fix_Sqrt.f k a = some (r, 0) ∧ Root a r := by
  unfold fix_Sqrt.f
  rw [if_neg (by omega)]
  exact sqrt_l0 h0 h1 48 k 0 281474976710656 (by omega) (by omega) (by omega) (by omega) (by omega) (by decide) (by omega)
theorem root_mono {a b r s : Int} (ha : Root a r) (hb : Root b s) (h : a ≤ b) : r ≤ s := by
  obtain ⟨a1, a2, a3, a4⟩ := ha
  obtain ⟨b1, b2, b3, b4⟩ := hb
  by_cases c : r ≤ s
  · exact c
  · have := Int.mul_le_mul (show s + 1 ≤ r by omega) (show s + 1 ≤ r by omega) (by omega) (by omega)
    omega
theorem mul_lt_iff {x y : Int} (hx : 0 ≤ x) (h : x * x ≤ y * y) (hy : 0 ≤ y) : x ≤ y := by
  by_cases c : x ≤ y
  · exact c
  · have := Int.mul_le_mul (show y + 1 ≤ x by omega) (show y + 1 ≤ x by omega) (by omega) (by omega)
    have e : (y + 1) * (y + 1) = y * y + y + y + 1 := by rw [Int.add_mul, Int.mul_add]; omega
    omega
theorem inw_in {v : Int} (h : -9223372036854775808 ≤ v) (h' : v ≤ 9223372036854775807) : inw v = (v, 0) := by unfold inw; rw [if_pos ⟨h, h'⟩]
theorem inw_out {v : Int} (h : ¬ (-9223372036854775808 ≤ v ∧ v ≤ 9223372036854775807)) : inw v = (0, 10) := by unfold inw; rw [if_neg h]
theorem add_f {a b : Int} (ha : -9223372036854775808 ≤ a) (ha' : a ≤ 9223372036854775807) (hb : -9223372036854775808 ≤ b) (hb' : b ≤ 9223372036854775807) : fix_Add.f a b = some (inw (a + b)) := by
  unfold fix_Add.f fix_told.f
  by_cases c : (decide (a < 0) != decide (b < 0)) = true
  · rw [if_pos c]
    have c2 : (a < 0 ∧ ¬ b < 0) ∨ (¬ a < 0 ∧ b < 0) := by
      by_cases x : a < 0 <;> by_cases y : b < 0 <;> simp [x, y] at c ⊢
    rw [inw_in (by omega) (by omega), w64 (by omega) (by omega)]
    simp
  · rw [if_neg c]
    have c2 : (a < 0 ∧ b < 0) ∨ (¬ a < 0 ∧ ¬ b < 0) := by
      by_cases x : a < 0 <;> by_cases y : b < 0 <;> simp [x, y] at c ⊢
    by_cases f : -9223372036854775808 ≤ a + b ∧ a + b ≤ 9223372036854775807
    · rw [inw_in f.1 f.2, w64 f.1 f.2]
      have e : (decide (a + b < 0) == decide (a < 0)) = true := by
        rcases c2 with h | h
        · rw [decide_eq_true (show a + b < 0 by omega), decide_eq_true h.1]; rfl
        · rw [decide_eq_false (show ¬ a + b < 0 by omega), decide_eq_false h.1]; rfl
      rw [e]
      simp
    · rw [inw_out f]
      have e : (decide (wrap64 (a + b) < 0) == decide (a < 0)) = false := by
        rcases c2 with h | h
        · rw [decide_eq_false (show ¬ wrap64 (a + b) < 0 by unfold wrap64; omega), decide_eq_true h.1]; rfl
        · rw [decide_eq_true (show wrap64 (a + b) < 0 by unfold wrap64; omega), decide_eq_false h.1]; rfl
      rw [e]
      simp
theorem sub_f {a b : Int} (ha : -9223372036854775808 ≤ a) (ha' : a ≤ 9223372036854775807) (hb : -9223372036854775808 ≤ b) (hb' : b ≤ 9223372036854775807) : fix_Sub.f a b = some (inw (a - b)) := by
  unfold fix_Sub.f fix_told.f
  by_cases c : (decide (a < 0) == decide (b < 0)) = true
  · rw [if_pos c]
    have c2 : (a < 0 ∧ b < 0) ∨ (¬ a < 0 ∧ ¬ b < 0) := by
      by_cases x : a < 0 <;> by_cases y : b < 0 <;> simp [x, y] at c ⊢
    rw [inw_in (by omega) (by omega), w64 (by omega) (by omega)]
    simp
  · rw [if_neg c]
    have c2 : (a < 0 ∧ ¬ b < 0) ∨ (¬ a < 0 ∧ b < 0) := by
      by_cases x : a < 0 <;> by_cases y : b < 0 <;> simp [x, y] at c ⊢
    by_cases f : -9223372036854775808 ≤ a - b ∧ a - b ≤ 9223372036854775807
    · rw [inw_in f.1 f.2, w64 f.1 f.2]
      have e : (decide (a - b < 0) == decide (a < 0)) = true := by
        rcases c2 with h | h
        · rw [decide_eq_true (show a - b < 0 by omega), decide_eq_true h.1]; rfl
        · rw [decide_eq_false (show ¬ a - b < 0 by omega), decide_eq_false h.1]; rfl
      rw [e]
      simp
    · rw [inw_out f]
      have e : (decide (wrap64 (a - b) < 0) == decide (a < 0)) = false := by
        rcases c2 with h | h
        · rw [decide_eq_false (show ¬ wrap64 (a - b) < 0 by unfold wrap64; omega), decide_eq_true h.1]; rfl
        · rw [decide_eq_true (show wrap64 (a - b) < 0 by unfold wrap64; omega), decide_eq_false h.1]; rfl
      rw [e]
      simp
theorem inw_rng (v : Int) : -9223372036854775808 ≤ (inw v).1 ∧ (inw v).1 ≤ 9223372036854775807 := by
  unfold inw
  split
  · assumption
  · decide
end Go.Proofs.Ytkebkghhncelpaa.Plain
