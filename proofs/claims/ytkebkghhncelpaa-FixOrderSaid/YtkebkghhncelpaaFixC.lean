/- Two words divided by one, by half words; no conditions. -/
import Derived.Test.YtkebkghhncelpaaFixB
namespace Go.Proofs.Ytkebkghhncelpaa.Plain
open Go.RowKit Go.Proofs.Ytkebkghhncelpaa.A Go.Proofs.YtkebkghhncelpaaW.PrintWords Go.Proofs.YtkebkghhncelpaaW.PrintLast Go.Proofs.YtkebkghhncelpaaW.PrintMore
set_option linter.unusedVariables false
set_option linter.unusedSimpArgs false

/-- What holds of a guessed digit q and what is left of it, rh. -/
structure Guess (y1 y0 u d q rh : Int) : Prop where
  q0 : 0 ≤ q
  q1 : q ≤ 4294967297
  r0 : 0 ≤ rh
  r1 : rh < 4294967296
  eq : q * y1 + rh = u
  lt : rh * 4294967296 + d - q * y0 < y1 * 4294967296 + y0
structure Half (y1 y0 u d : Int) : Prop where
  a0 : 2147483648 ≤ y1
  a1 : y1 ≤ 4294967295
  b0 : 0 ≤ y0
  b1 : y0 ≤ 4294967295
  u0 : 0 ≤ u
  u1 : u < y1 * 4294967296 + y0
  d0 : 0 ≤ d
  d1 : d ≤ 4294967295
/-- A digit, and what is left behind it. -/
def Digit (y1 y0 u d q : Int) : Prop := 0 ≤ q ∧ q ≤ 4294967296 ∧ ∃ r, 0 ≤ r ∧ r < y1 * 4294967296 + y0 ∧ u * 4294967296 + d = q * (y1 * 4294967296 + y0) + r
variable {y1 y0 u d q rh : Int}
theorem Guess.prod (g : Guess y1 y0 u d q rh) (h : Half y1 y0 u d) : 0 ≤ q * y0 ∧ q * y0 ≤ 18446744073709551615 := by
  have := mul_le g.q0 g.q1 h.b0 h.b1
  omega
theorem Guess.test (g : Guess y1 y0 u d q rh) (h : Half y1 y0 u d) : q * y0 % 18446744073709551616 = q * y0 ∧ (4294967296 * rh % 18446744073709551616 + d) % 18446744073709551616 = 4294967296 * rh + d := by
  have p := g.prod h
  have := g.r0; have := g.r1; have := h.d0; have := h.d1
  generalize q * y0 = T at p ⊢
  omega
theorem whole (e : q * y1 + rh = u) : u * 4294967296 + d = q * (y1 * 4294967296 + y0) + (rh * 4294967296 + d - q * y0) := by
  have e1 : q * (y1 * 4294967296 + y0) = q * y1 * 4294967296 + q * y0 := by rw [Int.mul_add, ← Int.mul_assoc]
  rw [e1]
  generalize q * y1 = S at *
  generalize q * y0 = T at *
  omega
/-- The guess is right. -/
theorem Guess.stay (g : Guess y1 y0 u d q rh) (h : Half y1 y0 u d) (c1 : ¬ 4294967296 ≤ q) (c2 : ¬ q * y0 > 4294967296 * rh + d) : Digit y1 y0 u d q := by
  have lt := g.lt
  refine ⟨g.q0, by omega, rh * 4294967296 + d - q * y0, ?_, lt, whole g.eq⟩
  generalize q * y0 = T at *
  omega
/-- It is too great: the next lower one. -/
theorem Guess.low (g : Guess y1 y0 u d q rh) (h : Half y1 y0 u d) (c : 4294967296 ≤ q ∨ q * y0 > 4294967296 * rh + d) : 1 ≤ q ∧ rh * 4294967296 + d - q * y0 < 0 := by
  obtain ⟨q0, q1, r0, r1, eq, lt⟩ := g
  obtain ⟨a0, a1, b0, b1, u0, u1, d0, d1⟩ := h
  rcases c with c | c
  · have m1 := Int.mul_le_mul c (Int.le_refl y1) (by omega) q0
    have m2 := Int.mul_le_mul c (Int.le_refl y0) (by omega) q0
    generalize q * y1 = S at *
    generalize q * y0 = T at *
    omega
  · refine ⟨?_, by generalize q * y0 = T at *; omega⟩
    by_cases z : q = 0
    · subst z
      simp at c
      omega
    · omega
theorem Guess.next (g : Guess y1 y0 u d q rh) (h : Half y1 y0 u d) (c : 4294967296 ≤ q ∨ q * y0 > 4294967296 * rh + d) (c2 : rh + y1 < 4294967296) : Guess y1 y0 u d (q - 1) (rh + y1) := by
  have l := g.low h c
  obtain ⟨q0, q1, r0, r1, eq, lt⟩ := g
  have e1 : (q - 1) * y1 = q * y1 - y1 := by rw [Int.sub_mul, Int.one_mul]
  have e0 : (q - 1) * y0 = q * y0 - y0 := by rw [Int.sub_mul, Int.one_mul]
  have := h.a0
  refine ⟨by omega, by omega, by omega, c2, ?_, ?_⟩
  · rw [e1]; generalize q * y1 = S at *; omega
  · rw [e0]; generalize q * y0 = T at *; omega
theorem Guess.last (g : Guess y1 y0 u d q rh) (h : Half y1 y0 u d) (c : 4294967296 ≤ q ∨ q * y0 > 4294967296 * rh + d) (c2 : ¬ rh + y1 < 4294967296) : Digit y1 y0 u d (q - 1) := by
  have l := g.low h c
  obtain ⟨q0, q1, r0, r1, eq, lt⟩ := g
  obtain ⟨a0, a1, b0, b1, u0, u1, d0, d1⟩ := h
  have e1 : (q - 1) * y1 = q * y1 - y1 := by rw [Int.sub_mul, Int.one_mul]
  have e0 : (q - 1) * y0 = q * y0 - y0 := by rw [Int.sub_mul, Int.one_mul]
  have m := mul_le (a := q - 1) (b := y0) (A := 4294967296) (B := 4294967295) (by omega) (by omega) b0 b1
  refine ⟨by omega, by omega, (rh + y1) * 4294967296 + d - (q - 1) * y0, ?_, ?_, whole ?_⟩
  · generalize (q - 1) * y0 = T at *
    omega
  · rw [e0]; generalize q * y0 = T at *; omega
  · rw [e1]; generalize q * y1 = S at *; omega
/-- The first guess. -/
theorem Half.first (h : Half y1 y0 u d) : Guess y1 y0 u d (u / y1) (u - u / y1 * y1) := by
  obtain ⟨a0, a1, b0, b1, u0, u1, d0, d1⟩ := h
  have q0 := Int.ediv_nonneg u0 (show 0 ≤ y1 by omega)
  have e1 := Int.ediv_mul_le u (show y1 ≠ 0 by omega)
  have e2 := Int.lt_ediv_add_one_mul_self u (show 0 < y1 by omega)
  have e3 : (u / y1 + 1) * y1 = u / y1 * y1 + y1 := by rw [Int.add_mul, Int.one_mul]
  rw [e3] at e2
  have q1 : u / y1 ≤ 4294967297 := by
    by_cases c : u / y1 ≤ 4294967297
    · exact c
    · have m := Int.mul_le_mul (show 4294967298 ≤ u / y1 by omega) (Int.le_refl y1) (by omega) q0
      generalize u / y1 * y1 = S at *
      omega
  have m := Int.mul_nonneg q0 b0
  refine ⟨q0, q1, by omega, by omega, by omega, ?_⟩
  generalize u / y1 * y1 = S at *
  generalize u / y1 * y0 = T at *
  omega
theorem l0_dig (Y s e : Int) (h : Half y1 y0 u d) (n : Nat) : ∀ (k : Nat) (q rh : Int), Guess y1 y0 u d q rh → 4294967296 ≤ rh + 2147483648 * (n : Int) → 2 * n + 2 ≤ k →
    ∃ (k' : Nat) (Q : Int), bits_Div64.l0 k Y s y1 y0 u d e q rh = bits_Div64.j2 k' Y s y1 y0 u d e Q ∧ Digit y1 y0 u d Q ∧ k ≤ k' + 2 * n + 2 := by
  induction n with
  | zero =>
    intro k q rh g hn hk
    have := g.r1
    omega
  | succ n ih =>
    intro k q rh g hn hk
    obtain ⟨k, rfl⟩ : ∃ p, k = p + 2 := ⟨k - 2, by omega⟩
    have t := g.test h
    have key : (4294967296 ≤ q ∨ q * y0 > 4294967296 * rh + d) → ∃ (k' : Nat) (Q : Int), bits_Div64.j1 (k + 1) Y s y1 y0 u d e q rh true = bits_Div64.j2 k' Y s y1 y0 u d e Q ∧ Digit y1 y0 u d Q ∧ k + 2 ≤ k' + 2 * (n + 1) + 2 := by
      intro c
      have l := (g.low h c).1
      have := g.q1
      have := g.r0
      have := g.r1
      have := h.a0
      have := h.a1
      rw [bits_Div64.j1, if_pos rfl]
      simp only [u64w]
      rw [show (rh + y1) % 18446744073709551616 = rh + y1 by omega, show (q - 1) % 18446744073709551616 = q - 1 by omega]
      by_cases c2 : rh + y1 < 4294967296
      · rw [if_neg (by omega)]
        obtain ⟨k', Q, e1, e2, e3⟩ := ih k (q - 1) (rh + y1) (g.next h c c2) (by omega) (by omega)
        exact ⟨k', Q, e1, e2, by omega⟩
      · rw [if_pos (by omega)]
        exact ⟨k, q - 1, rfl, g.last h c c2, by omega⟩
    rw [bits_Div64.l0]
    simp only [u64w]
    by_cases c1 : 4294967296 ≤ q
    · rw [if_pos c1]
      exact key (Or.inl c1)
    · rw [if_neg c1, t.1, t.2]
      by_cases c2 : q * y0 > 4294967296 * rh + d
      · rw [decide_eq_true c2]
        exact key (Or.inr c2)
      · rw [decide_eq_false c2, bits_Div64.j1, if_neg (by simp)]
        exact ⟨k, q, rfl, g.stay h c1 c2, by omega⟩
theorem l1_dig (Y s p : Int) (hs : 0 ≤ s) (h : Half y1 y0 u d) (n : Nat) : ∀ (k : Nat) (q rh : Int), Guess y1 y0 u d q rh → 4294967296 ≤ rh + 2147483648 * (n : Int) → 2 * n + 2 ≤ k →
    ∃ Q : Int, bits_Div64.l1 k Y s y1 y0 d p rh u q = some ((p * 4294967296 % 18446744073709551616 + Q) % 18446744073709551616, shr .u64 (((u * 4294967296 % 18446744073709551616 + d) % 18446744073709551616 - Q * Y % 18446744073709551616) % 18446744073709551616) s) ∧ Digit y1 y0 u d Q := by
  induction n with
  | zero =>
    intro k q rh g hn hk
    have := g.r1
    omega
  | succ n ih =>
    intro k q rh g hn hk
    obtain ⟨k, rfl⟩ : ∃ p, k = p + 2 := ⟨k - 2, by omega⟩
    have t := g.test h
    have key : (4294967296 ≤ q ∨ q * y0 > 4294967296 * rh + d) → ∃ Q : Int, bits_Div64.j4 (k + 1) Y s y1 y0 d p rh u q true = some ((p * 4294967296 % 18446744073709551616 + Q) % 18446744073709551616, shr .u64 (((u * 4294967296 % 18446744073709551616 + d) % 18446744073709551616 - Q * Y % 18446744073709551616) % 18446744073709551616) s) ∧ Digit y1 y0 u d Q := by
      intro c
      have l := (g.low h c).1
      have := g.q1
      have := g.r0
      have := g.r1
      have := h.a0
      have := h.a1
      rw [bits_Div64.j4, if_pos rfl]
      simp only [u64w]
      rw [show (rh + y1) % 18446744073709551616 = rh + y1 by omega, show (q - 1) % 18446744073709551616 = q - 1 by omega]
      by_cases c2 : rh + y1 < 4294967296
      · rw [if_neg (by omega)]
        exact ih k (q - 1) (rh + y1) (g.next h c c2) (by omega) (by omega)
      · rw [if_pos (by omega), if_pos hs]
        exact ⟨q - 1, rfl, g.last h c c2⟩
    rw [bits_Div64.l1]
    simp only [u64w]
    by_cases c1 : 4294967296 ≤ q
    · rw [if_pos c1]
      exact key (Or.inl c1)
    · rw [if_neg c1, t.1, t.2]
      by_cases c2 : q * y0 > 4294967296 * rh + d
      · rw [decide_eq_true c2]
        exact key (Or.inr c2)
      · rw [decide_eq_false c2, bits_Div64.j4, if_neg (by simp), if_pos hs]
        simp only [u64w]
        exact ⟨q, rfl, g.stay h c1 c2⟩
/-- Both digits: three half words, and one, divided by two. -/
theorem both (s e : Int) (hs : 0 ≤ s) (h : Half y1 y0 u d) (he : 0 ≤ e) (he' : e ≤ 4294967295) (k : Nat) (hk : 20 ≤ k) :
    ∃ p q r : Int, bits_Div64.l0 k (y1 * 4294967296 + y0) s y1 y0 u d e (u / y1) (u - u / y1 * y1) = some ((p * 4294967296 % 18446744073709551616 + q) % 18446744073709551616, shr .u64 r s) ∧
      0 ≤ p ∧ p ≤ 4294967296 ∧ 0 ≤ q ∧ q ≤ 4294967296 ∧ 0 ≤ r ∧ r < y1 * 4294967296 + y0 ∧
      (u * 4294967296 + d) * 4294967296 + e = (p * 4294967296 + q) * (y1 * 4294967296 + y0) + r := by
  have a0 := h.a0
  have a1 := h.a1
  have b0 := h.b0
  have b1 := h.b1
  obtain ⟨k', p, e1, ⟨p0, p1, r, r0, r1, er⟩, hk'⟩ := l0_dig (y1 * 4294967296 + y0) s e h 2 k _ _ h.first (by have := h.first.r0; omega) (by omega)
  rw [e1]
  obtain ⟨k', rfl⟩ : ∃ j, k' = j + 1 := ⟨k' - 1, by omega⟩
  rw [bits_Div64.j2, if_neg (by omega)]
  simp only [u64w]
  have eu : ((u * 4294967296 % 18446744073709551616 + d) % 18446744073709551616 - p * (y1 * 4294967296 + y0) % 18446744073709551616) % 18446744073709551616 = r := by
    generalize p * (y1 * 4294967296 + y0) = S at er ⊢
    omega
  rw [eu]
  have h2 : Half y1 y0 r e := ⟨a0, a1, b0, b1, r0, r1, he, he'⟩
  have g := h2.first
  have t1 : Int.tdiv r y1 % 18446744073709551616 = r / y1 := by
    rw [Int.tdiv_eq_ediv_of_nonneg r0]
    have := g.q0
    have := g.q1
    generalize r / y1 = z at *
    omega
  rw [t1]
  have t2 : (r - r / y1 * y1 % 18446744073709551616) % 18446744073709551616 = r - r / y1 * y1 := by
    have := g.r0
    have := g.r1
    have := mul_le g.q0 g.q1 (show 0 ≤ y1 by omega) a1
    generalize r / y1 * y1 = z at *
    omega
  rw [t2]
  obtain ⟨q, e2, q0, q1, r', s0, s1, es⟩ := l1_dig (y1 * 4294967296 + y0) s p hs h2 2 k' _ _ g (by have := g.r0; omega) (by omega)
  rw [e2]
  have ev : ((r * 4294967296 % 18446744073709551616 + e) % 18446744073709551616 - q * (y1 * 4294967296 + y0) % 18446744073709551616) % 18446744073709551616 = r' := by
    generalize q * (y1 * 4294967296 + y0) = S at es ⊢
    omega
  rw [ev]
  refine ⟨p, q, r', rfl, p0, p1, q0, q1, s0, s1, ?_⟩
  have x1 : (p * 4294967296 + q) * (y1 * 4294967296 + y0) = p * (y1 * 4294967296 + y0) * 4294967296 + q * (y1 * 4294967296 + y0) := by rw [Int.add_mul, Int.mul_right_comm]
  rw [x1]
  generalize p * (y1 * 4294967296 + y0) = S at *
  generalize q * (y1 * 4294967296 + y0) = S' at *
  omega
end Go.Proofs.Ytkebkghhncelpaa.Plain
