/- Two words divided by one, bit by bit; no conditions. -/
import Derived.Test.YtkebkghhncelpaaFixG
import Derived.Test.YtkebkghhncelpaaAx14
import Derived.Test.YtkebkghhncelpaaAx15
namespace Go.Proofs.Ytkebkghhncelpaa.Plain
open Go.RowKit Go.Proofs.Ytkebkghhncelpaa.A Go.Proofs.YtkebkghhncelpaaW.PrintWords Go.Proofs.YtkebkghhncelpaaW.PrintLast Go.Proofs.YtkebkghhncelpaaW.PrintMore
set_option linter.unusedVariables false
set_option linter.unusedSimpArgs false

theorem parts_l0 (y : Int) (hy : 1 ≤ y) (hy' : y ≤ 9223372036854775808) (n : Nat) : ∀ (k : Nat) (h l r a b X Z P : Int), n ≤ 128 → n + 1 ≤ k → 0 ≤ h → h < 18446744073709551616 → 0 ≤ l → l < 18446744073709551616 → 0 ≤ r → r < y →
    0 ≤ a → 0 ≤ b → b < 18446744073709551616 → P = 2 ^ n → Z * P = 340282366920938463463374607431768211456 → h * 18446744073709551616 + l = X * Z → 0 ≤ X → X < P → (a * 18446744073709551616 + b + 1) * P ≤ 340282366920938463463374607431768211456 →
    ∃ A B R : Int, fullerref01_Parts.l0 k h l y r a b ((n : Int) - 1) = some (A, B, R) ∧ 0 ≤ A ∧ A < 18446744073709551616 ∧ 0 ≤ B ∧ B < 18446744073709551616 ∧ 0 ≤ R ∧ R < y ∧
      (A * 18446744073709551616 + B) * y + R = ((a * 18446744073709551616 + b) * y + r) * P + X := by
  induction n with
  | zero =>
    intro k h l r a b X Z P hn hk h0 h1 l0 l1 r0 r1 a0 b0 b1 hP hZ hX x0 x1 hq
    obtain ⟨k, rfl⟩ : ∃ q, k = q + 1 := ⟨k - 1, by omega⟩
    have p1 : P = 1 := by rw [hP]; rfl
    subst p1
    rw [fullerref01_Parts.l0, if_neg (by omega)]
    refine ⟨a, b, r, rfl, a0, by omega, b0, b1, r0, r1, ?_⟩
    rw [Int.mul_one]
    omega
  | succ n ih =>
    intro k h l r a b X Z P hn hk h0 h1 l0 l1 r0 r1 a0 b0 b1 hP hZ hX x0 x1 hq
    obtain ⟨k, rfl⟩ : ∃ q, k = q + 1 := ⟨k - 1, by omega⟩
    obtain ⟨p, hp⟩ : ∃ p : Int, p = 2 ^ n := ⟨_, rfl⟩
    have hPp : P = 2 * p := by rw [hP, hp, Int.pow_succ, Int.mul_comm]
    have p0 : 1 ≤ p := by have : (0 : Int) < 2 ^ n := Int.pow_pos (by omega); omega
    have hZp : Z * p = 170141183460469231731687303715884105728 := by
      rw [hPp, ← Int.mul_assoc, Int.mul_comm Z 2, Int.mul_assoc] at hZ
      omega
    have Z0 : 0 < Z := by
      by_cases z : 0 < Z
      · exact z
      · have := Int.mul_le_mul_of_nonneg_right (show Z ≤ 0 by omega) (show 0 ≤ p by omega)
        rw [Int.zero_mul] at this
        omega
    obtain ⟨t, ht⟩ : ∃ t, t = h / 9223372036854775808 := ⟨_, rfl⟩
    have t01 : t = 0 ∨ t = 1 := by omega
    have xt : 0 ≤ X - t * p ∧ X - t * p < p := by
      rcases t01 with z | z
      · refine ⟨by rw [z]; omega, ?_⟩
        rw [z, Int.zero_mul]
        by_cases w : X < p
        · omega
        · have := Int.mul_le_mul_of_nonneg_right (show p ≤ X by omega) (Int.le_of_lt Z0)
          rw [Int.mul_comm p Z] at this
          omega
      · rw [z, Int.one_mul]
        refine ⟨?_, by omega⟩
        by_cases w : p ≤ X
        · omega
        · have := Int.mul_le_mul_of_nonneg_right (show X + 1 ≤ p by omega) (Int.le_of_lt Z0)
          rw [Int.mul_comm p Z, Int.add_mul] at this
          omega
    have xz : (X - t * p) * (2 * Z) = 2 * (X * Z) - t * 340282366920938463463374607431768211456 := by
      have e1 : (X - t * p) * (2 * Z) = 2 * (X * Z) - 2 * (t * (Z * p)) := by
        rw [Int.mul_left_comm, Int.sub_mul, Int.mul_assoc t p Z, Int.mul_comm p Z, Int.mul_sub]
      rw [e1, hZp]
      omega
    have q2 : (a * 18446744073709551616 + b + 1) * P = (2 * (a * 18446744073709551616 + b) + 2) * p := by
      rw [hPp, ← Int.mul_assoc, Int.mul_comm (a * 18446744073709551616 + b + 1) 2, Int.mul_add]
      rfl
    rw [q2] at hq
    have qs : 2 * (a * 18446744073709551616 + b) + 2 ≤ 340282366920938463463374607431768211456 := by
      have := Int.mul_le_mul_of_nonneg_left p0 (show 0 ≤ 2 * (a * 18446744073709551616 + b) + 2 by omega)
      omega
    have fin : ((a * 18446744073709551616 + b) * y + r) * P + X = (2 * ((a * 18446744073709551616 + b) * y + r) + t) * p + (X - t * p) := by
      rw [hPp, ← Int.mul_assoc, Int.mul_comm _ 2, Int.add_mul (2 * ((a * 18446744073709551616 + b) * y + r)) t p]
      omega
    rw [fullerref01_Parts.l0, if_pos (by omega), if_neg (by omega)]
    simp only [u64w]
    have th : Int.tdiv h 9223372036854775808 % 18446744073709551616 = t := by rw [Int.tdiv_eq_ediv_of_nonneg h0]; omega
    have tl : Int.tdiv l 9223372036854775808 % 18446744073709551616 = l / 9223372036854775808 := by rw [Int.tdiv_eq_ediv_of_nonneg l0]; omega
    have tb : Int.tdiv b 9223372036854775808 % 18446744073709551616 = b / 9223372036854775808 := by rw [Int.tdiv_eq_ediv_of_nonneg b0]; omega
    have er : (r * 2 % 18446744073709551616 + t) % 18446744073709551616 = 2 * r + t := by omega
    have ei : wrap64 (((n + 1 : Nat) : Int) - 1 - 1) = (n : Int) - 1 := by rw [w64 (by omega) (by omega)]; omega
    rw [th, tl, tb, er, ei]
    have hX' : (h * 2 % 18446744073709551616 + l / 9223372036854775808) % 18446744073709551616 * 18446744073709551616 + l * 2 % 18446744073709551616 = (X - t * p) * (2 * Z) := by
      rw [xz, ← hX]
      omega
    have hZ' : 2 * Z * p = 340282366920938463463374607431768211456 := by rw [Int.mul_assoc, hZp]; rfl
    rw [fin]
    clear fin xz hZp q2 hX hZ
    by_cases c : 2 * r + t ≥ y
    · rw [if_pos c, show (2 * r + t - y) % 18446744073709551616 = 2 * r + t - y by omega]
      have eq' : (a * 2 % 18446744073709551616 + b / 9223372036854775808) % 18446744073709551616 * 18446744073709551616 + (b * 2 % 18446744073709551616 + 1) % 18446744073709551616 = 2 * (a * 18446744073709551616 + b) + 1 := by omega
      obtain ⟨A, B, R, e, g0, g1, g2, g3, g4, g5, g6⟩ := ih k ((h * 2 % 18446744073709551616 + l / 9223372036854775808) % 18446744073709551616) (l * 2 % 18446744073709551616) (2 * r + t - y) ((a * 2 % 18446744073709551616 + b / 9223372036854775808) % 18446744073709551616) ((b * 2 % 18446744073709551616 + 1) % 18446744073709551616) (X - t * p) (2 * Z) p
        (by omega) (by omega) (by omega) (by omega) (by omega) (by omega) (by omega) (by omega) (by omega) (by omega) (by omega) hp hZ' hX' xt.1 xt.2 (by rw [eq', show 2 * (a * 18446744073709551616 + b) + 1 + 1 = 2 * (a * 18446744073709551616 + b) + 2 by omega]; exact hq)
      refine ⟨A, B, R, e, g0, g1, g2, g3, g4, g5, ?_⟩
      rw [g6, eq', Int.add_mul (2 * (a * 18446744073709551616 + b)) 1 y, Int.mul_assoc 2 _ y, Int.one_mul, show 2 * ((a * 18446744073709551616 + b) * y) + y + (2 * r + t - y) = 2 * ((a * 18446744073709551616 + b) * y + r) + t by omega]
    · rw [if_neg c]
      have eq' : (a * 2 % 18446744073709551616 + b / 9223372036854775808) % 18446744073709551616 * 18446744073709551616 + b * 2 % 18446744073709551616 = 2 * (a * 18446744073709551616 + b) := by omega
      have hq2 := Int.mul_le_mul_of_nonneg_right (show 2 * (a * 18446744073709551616 + b) + 1 ≤ 2 * (a * 18446744073709551616 + b) + 2 by omega) (show 0 ≤ p by omega)
      obtain ⟨A, B, R, e, g0, g1, g2, g3, g4, g5, g6⟩ := ih k ((h * 2 % 18446744073709551616 + l / 9223372036854775808) % 18446744073709551616) (l * 2 % 18446744073709551616) (2 * r + t) ((a * 2 % 18446744073709551616 + b / 9223372036854775808) % 18446744073709551616) (b * 2 % 18446744073709551616) (X - t * p) (2 * Z) p
        (by omega) (by omega) (by omega) (by omega) (by omega) (by omega) (by omega) (by omega) (by omega) (by omega) (by omega) hp hZ' hX' xt.1 xt.2 (by rw [eq']; omega)
      refine ⟨A, B, R, e, g0, g1, g2, g3, g4, g5, ?_⟩
      rw [g6, eq', Int.mul_assoc 2 _ y, show 2 * ((a * 18446744073709551616 + b) * y) + (2 * r + t) = 2 * ((a * 18446744073709551616 + b) * y + r) + t by omega]
theorem rdiv_f {a b : Int} (ha : -9223372036854775808 ≤ a) (ha' : a ≤ 9223372036854775807) (hb : -9223372036854775808 ≤ b) (hb' : b ≤ 9223372036854775807) (hb0 : b ≠ 0) (k : Nat) (hk : 130 ≤ k) :
    ∃ v, fullerref01_Div.f k a b = some (inw v) ∧ Floor (a * 4294967296) b v := by
  unfold fullerref01_Div.f
  rw [if_neg hb0, rsize_f ha ha', rsize_f hb hb']
  simp only [Option.bind_some]
  obtain ⟨x, hx⟩ : ∃ x, x = (if a < 0 then -a else a) := ⟨_, rfl⟩
  obtain ⟨y, hy⟩ : ∃ y, y = (if b < 0 then -b else b) := ⟨_, rfl⟩
  rw [← hx, ← hy]
  have bx : 0 ≤ x ∧ x ≤ 9223372036854775808 := by subst hx; split <;> omega
  have byy : 1 ≤ y ∧ y ≤ 9223372036854775808 := by subst hy; split <;> omega
  rw [Int.tdiv_eq_ediv_of_nonneg bx.1, Int.tmod_eq_emod_of_nonneg bx.1]
  simp only [u64w]
  unfold fullerref01_Parts.f
  obtain ⟨A, B, R, e, A0, A1, B0, B1, R0, R1, tot⟩ := parts_l0 y byy.1 byy.2 128 k (x / 4294967296 % 18446744073709551616) (x % 4294967296 * 4294967296 % 18446744073709551616) 0 0 0 (x * 4294967296) 1 340282366920938463463374607431768211456
    (by omega) (by omega) (by omega) (by omega) (by omega) (by omega) (by omega) (by omega) (by omega) (by omega) (by omega) (by decide) (by omega) (by omega) (by omega) (by omega) (by omega)
  rw [show ((128 : Nat) : Int) - 1 = 127 from rfl] at e
  rw [e]
  simp only [Option.bind_some]
  obtain ⟨N, hN⟩ : ∃ N, N = A * 18446744073709551616 + B := ⟨_, rfl⟩
  rw [← hN] at tot
  have tot2 : x * 4294967296 = N * y + R := by rw [tot]; omega
  have n0 : 0 ≤ N := by omega
  have n3 : N ≤ N * y := by have := Int.mul_le_mul_of_nonneg_left byy.1 n0; omega
  have n4 : N < 100000000000000000000000000000000000000 := by omega
  have n1 : A = N / 18446744073709551616 := by omega
  have n2 : B = N % 18446744073709551616 := by omega
  have hs : ∀ z : Bool, fullerref01_signed.f k A B (decide (R > 0)) z = some (fsig N (decide (R > 0)) z) := by
    intro z
    rw [n1, n2]
    exact rsigned_f n0 n4 _ z k (by omega)
  rw [hs, hs]
  simp only [Option.bind_some]
  clear hs n1 n2 e hN tot
  have dr : (if decide (R > 0) = true then N + 1 else N) = (if R = 0 then N else N + 1) := by
    by_cases c : R = 0
    · rw [c]; simp
    · rw [if_pos (decide_eq_true (show R > 0 by omega)), if_neg c]
  by_cases ca : a < 0
  · rw [if_pos ca] at hx
    by_cases cb : b < 0
    · rw [if_pos cb] at hy
      rw [if_neg (by simp [ca, cb]), fsig_pos n0]
      refine ⟨N, rfl, fun _ => by omega, fun _ => ?_⟩
      rw [hx, hy, Int.mul_neg, Int.neg_mul] at tot2
      generalize N * b = z at *
      omega
    · rw [if_neg cb] at hy
      rw [if_pos (by simp [ca, cb]), show (a != 0) = true from bne_iff_ne.mpr (by omega), fsig_neg n0, dr]
      refine ⟨_, rfl, fun _ => ?_, fun _ => by omega⟩
      rw [hx, hy, Int.neg_mul] at tot2
      by_cases c : R = 0
      · rw [if_pos c, Int.neg_mul]
        generalize N * b = z at *
        omega
      · rw [if_neg c, Int.neg_mul, Int.add_mul, Int.one_mul]
        generalize N * b = z at *
        omega
  · rw [if_neg ca] at hx
    by_cases cb : b < 0
    · rw [if_pos cb] at hy
      rw [if_pos (by simp [ca, cb])]
      by_cases ca0 : a = 0
      · rw [show (a != 0) = false by simp [ca0], fsig_pos n0]
        refine ⟨N, rfl, fun _ => by omega, fun _ => ?_⟩
        rw [hx, hy, Int.mul_neg] at tot2
        generalize N * b = z at *
        omega
      · rw [show (a != 0) = true from bne_iff_ne.mpr ca0, fsig_neg n0, dr]
        refine ⟨_, rfl, fun _ => by omega, fun _ => ?_⟩
        rw [hx, hy, Int.mul_neg] at tot2
        by_cases c : R = 0
        · rw [if_pos c, Int.neg_mul]
          generalize N * b = z at *
          omega
        · rw [if_neg c, Int.neg_mul, Int.add_mul, Int.one_mul]
          generalize N * b = z at *
          omega
    · rw [if_neg cb] at hy
      rw [if_neg (by simp [ca, cb]), fsig_pos n0]
      refine ⟨N, rfl, fun _ => ?_, fun _ => by omega⟩
      rw [hx, hy] at tot2
      generalize N * b = z at *
      omega
end Go.Proofs.Ytkebkghhncelpaa.Plain
