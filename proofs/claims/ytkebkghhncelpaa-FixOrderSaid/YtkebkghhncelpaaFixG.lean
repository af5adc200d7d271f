/- What the document's products are; no conditions. -/
import Derived.Test.YtkebkghhncelpaaFixF
import Derived.Test.YtkebkghhncelpaaAx13
import Derived.Test.YtkebkghhncelpaaAx14
namespace Go.Proofs.Ytkebkghhncelpaa.Plain
open Go.RowKit Go.Proofs.Ytkebkghhncelpaa.A Go.Proofs.YtkebkghhncelpaaW.PrintWords Go.Proofs.YtkebkghhncelpaaW.PrintLast Go.Proofs.YtkebkghhncelpaaW.PrintMore
set_option linter.unusedVariables false
set_option linter.unusedSimpArgs false

theorem rj_f {K : Int} (h0 : 0 ≤ K) (k : Nat) (hk : 2 ≤ k) : fullerref01_signed.j0 k (K / 18446744073709551616) (K % 18446744073709551616) = some (if 9223372036854775808 < K then (0, 10) else (-K, 0)) := by
  obtain ⟨k, rfl⟩ : ∃ q, k = q + 2 := ⟨k - 2, by omega⟩
  rw [fullerref01_signed.j0]
  by_cases c : K / 18446744073709551616 > 0
  · rw [if_pos c, fullerref01_signed.j1, if_pos rfl, if_pos (by omega)]
  · rw [if_neg c, fullerref01_signed.j1]
    have e : K % 18446744073709551616 = K := by omega
    rw [e]
    by_cases c2 : K > 9223372036854775808
    · rw [decide_eq_true c2, if_pos rfl, if_pos (by omega)]
    · rw [decide_eq_false c2, if_neg (by simp), if_neg (show ¬ 9223372036854775808 < K by omega)]
      by_cases c3 : K = 0
      · rw [if_pos c3, c3]; rfl
      · rw [if_neg c3]
        simp only [u64w]
        rw [show (K - 1) % 18446744073709551616 = K - 1 by omega, w64 (x := K - 1) (by omega) (by omega), w64 (x := -(K - 1)) (by omega) (by omega), w64 (by omega) (by omega)]
        exact congrArg (fun x => some (x, (0 : Int))) (by omega)
theorem rsigned_f {N : Int} (h0 : 0 ≤ N) (h1 : N < 100000000000000000000000000000000000000) (rest below : Bool) (k : Nat) (hk : 2 ≤ k) :
    fullerref01_signed.f k (N / 18446744073709551616) (N % 18446744073709551616) rest below = some (fsig N rest below) := by
  unfold fullerref01_signed.f fsig
  cases below with
  | false =>
    simp only [Bool.false_eq_true, if_false]
    by_cases c : N / 18446744073709551616 > 0
    · rw [if_pos c, if_pos (by omega)]
    · rw [if_neg c]
      by_cases c2 : N % 18446744073709551616 > 9223372036854775807
      · rw [if_pos c2, if_pos (by omega)]
      · rw [if_neg c2, if_neg (by omega), w64 (by omega) (by omega)]
        exact congrArg (fun x => some (x, (0 : Int))) (by omega)
  | true =>
    simp only [if_true]
    cases rest with
    | false =>
      simp only [Bool.false_eq_true, if_false]
      exact rj_f h0 k hk
    | true =>
      simp only [if_true, u64w]
      have := rj_f (K := N + 1) (by omega) k hk
      by_cases c : (N % 18446744073709551616 + 1) % 18446744073709551616 = 0
      · rw [if_pos c, show (N / 18446744073709551616 + 1) % 18446744073709551616 = (N + 1) / 18446744073709551616 by omega, show (N % 18446744073709551616 + 1) % 18446744073709551616 = (N + 1) % 18446744073709551616 by omega]
        exact this
      · rw [if_neg c, show N / 18446744073709551616 = (N + 1) / 18446744073709551616 by omega, show (N % 18446744073709551616 + 1) % 18446744073709551616 = (N + 1) % 18446744073709551616 by omega]
        exact this
theorem prod_sign {a b x y : Int} (hx : x = (if a < 0 then -a else a)) (hy : y = (if b < 0 then -b else b)) :
    (a ≠ 0 ∧ b ≠ 0 ∧ (decide (a < 0) != decide (b < 0)) = true ∧ x * y = -(a * b)) ∨ ((decide (a ≠ 0 ∧ b ≠ 0) && (decide (a < 0) != decide (b < 0))) = false ∧ x * y = a * b) := by
  by_cases ca : a < 0
  · by_cases cb : b < 0
    · right
      rw [hx, hy, if_pos ca, if_pos cb]
      exact ⟨by simp [ca, cb], Int.neg_mul_neg a b⟩
    · rw [hx, hy, if_pos ca, if_neg cb]
      by_cases cb0 : b = 0
      · right; subst cb0; simp
      · left; exact ⟨by omega, cb0, by simp [ca, cb], Int.neg_mul a b⟩
  · by_cases cb : b < 0
    · rw [hx, hy, if_neg ca, if_pos cb]
      by_cases ca0 : a = 0
      · right; subst ca0; simp
      · left; exact ⟨ca0, by omega, by simp [ca, cb], Int.mul_neg a b⟩
    · right
      rw [hx, hy, if_neg ca, if_neg cb]
      exact ⟨by simp [ca, cb], rfl⟩
theorem rmul_f {a b : Int} (ha : -9223372036854775808 ≤ a) (ha' : a ≤ 9223372036854775807) (hb : -9223372036854775808 ≤ b) (hb' : b ≤ 9223372036854775807) (k : Nat) (hk : 2 ≤ k) :
    fullerref01_Mul.f k a b = some (inw (a * b / 4294967296)) := by
  unfold fullerref01_Mul.f
  rw [rsize_f ha ha', rsize_f hb hb']
  simp only [Option.bind_some]
  obtain ⟨x, hx⟩ : ∃ x, x = (if a < 0 then -a else a) := ⟨_, rfl⟩
  obtain ⟨y, hy⟩ : ∃ y, y = (if b < 0 then -b else b) := ⟨_, rfl⟩
  rw [← hx, ← hy]
  have bx : 0 ≤ x ∧ x ≤ 9223372036854775808 := by subst hx; split <;> omega
  have byy : 0 ≤ y ∧ y ≤ 9223372036854775808 := by subst hy; split <;> omega
  rw [rwide_f bx.1 (by omega) byy.1 (by omega)]
  simp only [Option.bind_some, u64w]
  have m := mul_le bx.1 bx.2 byy.1 byy.2
  have sg := prod_sign hx hy
  clear hx hy
  generalize x * y = P at m sg ⊢
  have p0 : 0 ≤ P / 18446744073709551616 := by omega
  have p1 : 0 ≤ P % 18446744073709551616 := by omega
  rw [Int.tdiv_eq_ediv_of_nonneg p0, Int.tmod_eq_emod_of_nonneg p0, Int.tdiv_eq_ediv_of_nonneg p1, Int.tmod_eq_emod_of_nonneg p1]
  have e1 : P / 18446744073709551616 / 4294967296 % 18446744073709551616 = P / 4294967296 / 18446744073709551616 := by omega
  have e2 : (P / 18446744073709551616 % 4294967296 * 4294967296 % 18446744073709551616 + P % 18446744073709551616 / 4294967296 % 18446744073709551616) % 18446744073709551616 = P / 4294967296 % 18446744073709551616 := by omega
  rw [e1, e2]
  have hs : ∀ B : Bool, fullerref01_signed.f k (P / 4294967296 / 18446744073709551616) (P / 4294967296 % 18446744073709551616) (decide (P % 18446744073709551616 % 4294967296 > 0)) B = some (fsig (P / 4294967296) (decide (P % 18446744073709551616 % 4294967296 > 0)) B) :=
    fun B => rsigned_f (by omega) (by omega) _ B k hk
  rcases sg with ⟨h1, h2, h3, h4⟩ | ⟨h3, h4⟩
  · rw [if_pos h3, if_neg h1, bne_iff_ne.mpr h2, hs true, fsig_neg (by omega)]
    simp only [Option.bind_some]
    refine congrArg (fun v => some (inw v)) ?_
    by_cases c : P % 18446744073709551616 % 4294967296 > 0
    · rw [if_pos (decide_eq_true c)]; omega
    · rw [if_neg (by simpa using c)]; omega
  · have fin : (fullerref01_signed.f k (P / 4294967296 / 18446744073709551616) (P / 4294967296 % 18446744073709551616) (decide (P % 18446744073709551616 % 4294967296 > 0)) false).bind (fun bt => some (bt.1, bt.2)) = some (inw (a * b / 4294967296)) := by
      rw [hs false, fsig_pos (by omega), h4]
      rfl
    by_cases sd : (decide (a < 0) != decide (b < 0)) = true
    · rw [if_pos sd]
      by_cases a0 : a = 0
      · rw [if_pos a0]; exact fin
      · have b0 : b = 0 := by
          by_cases z : b = 0
          · exact z
          · rw [sd, decide_eq_true (show a ≠ 0 ∧ b ≠ 0 from ⟨a0, z⟩)] at h3
            cases h3
        rw [if_neg a0, show (b != 0) = false by simp [b0]]
        exact fin
    · rw [if_neg sd]; exact fin
end Go.Proofs.Ytkebkghhncelpaa.Plain
