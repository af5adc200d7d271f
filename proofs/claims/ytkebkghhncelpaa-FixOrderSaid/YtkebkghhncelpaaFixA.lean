/- Plain facts on the numbers of layer 1: what a product in two words is, what is told of it with its sign, what a root is; no conditions. -/
import Derived.Laws.Bits64b
import Derived.Test.YtkebkghhncelpaaAx1
import Derived.Test.YtkebkghhncelpaaAx3
import Derived.Test.YtkebkghhncelpaaAx4
namespace Go.Proofs.Ytkebkghhncelpaa.Plain
open Go.RowKit Go.Proofs.Ytkebkghhncelpaa.A Go.Proofs.YtkebkghhncelpaaW.PrintWords Go.Proofs.YtkebkghhncelpaaW.PrintLast Go.Proofs.YtkebkghhncelpaaW.PrintMore
set_option linter.unusedVariables false
set_option linter.unusedSimpArgs false

theorem w64 {x : Int} (h : -9223372036854775808 ≤ x) (h' : x ≤ 9223372036854775807) : wrap64 x = x := by
  unfold wrap64
  omega
theorem u64w (n : Int) : IntKind.u64.wrap n = n % 18446744073709551616 := IntKind.wrap_u64 n
theorem and32 {a : Int} (h : 0 ≤ a) (h' : a < 18446744073709551616) : Go.bits .and .u64 a 4294967295 = a % 4294967296 := by
  obtain ⟨n, rfl⟩ := Int.eq_ofNat_of_zero_le h
  have h2 : n < 18446744073709551616 := by omega
  have e := bits_and_u64_nat n 4294967295 h2 (by omega)
  have e2 : n &&& 4294967295 = n % 4294967296 := Nat.and_two_pow_sub_one_eq_mod n 32
  rw [e2] at e
  exact e
theorem or32 {p q : Int} (hp : 0 ≤ p) (hq : 0 ≤ q) (hq' : q < 18446744073709551616) :
    Go.bits .or .u64 (p * 4294967296 % 18446744073709551616) (q / 4294967296) = p * 4294967296 % 18446744073709551616 + q / 4294967296 := by
  obtain ⟨m, hm⟩ := Int.eq_ofNat_of_zero_le (show 0 ≤ p % 4294967296 by omega)
  obtain ⟨n, hn⟩ := Int.eq_ofNat_of_zero_le (show 0 ≤ q / 4294967296 by omega)
  have e0 : p * 4294967296 % 18446744073709551616 = ((m * 4294967296 : Nat) : Int) := by omega
  rw [e0, hn, bits_or_u64_nat _ _ (by omega) (by omega)]
  have e1 : m * 4294967296 ||| n = m * 4294967296 + n := by
    have := Nat.shiftLeft_add_eq_or_of_lt (b := n) (i := 32) (by omega) m
    rw [Nat.shiftLeft_eq] at this
    exact this.symm
  rw [e1]
  omega
theorem mul_le {a b A B : Int} (ha : 0 ≤ a) (hA : a ≤ A) (hb : 0 ≤ b) (hB : b ≤ B) : 0 ≤ a * b ∧ a * b ≤ A * B :=
  ⟨Int.mul_nonneg ha hb, Int.mul_le_mul hA hB hb (by omega)⟩
theorem mul64 {a b : Int} (ha : 0 ≤ a) (ha' : a < 18446744073709551616) (hb : 0 ≤ b) (hb' : b < 18446744073709551616) :
    bits_Mul64.f a b = some (a * b / 18446744073709551616, a * b % 18446744073709551616) := by
  unfold bits_Mul64.f
  simp only [u64w]
  rw [and32 ha ha', and32 hb hb', and32 (by omega) (by omega)]
  obtain ⟨x, hx⟩ : ∃ x, x = a / 4294967296 := ⟨_, rfl⟩
  obtain ⟨y, hy⟩ : ∃ y, y = a % 4294967296 := ⟨_, rfl⟩
  obtain ⟨u, hu⟩ : ∃ u, u = b / 4294967296 := ⟨_, rfl⟩
  obtain ⟨v, hv⟩ : ∃ v, v = b % 4294967296 := ⟨_, rfl⟩
  have ea : a = x * 4294967296 + y := by omega
  have eb : b = u * 4294967296 + v := by omega
  rw [← hx, ← hy, ← hu, ← hv]
  have bx : 0 ≤ x ∧ x ≤ 4294967295 := by omega
  have byy : 0 ≤ y ∧ y ≤ 4294967295 := by omega
  have bu : 0 ≤ u ∧ u ≤ 4294967295 := by omega
  have bv : 0 ≤ v ∧ v ≤ 4294967295 := by omega
  have m1 := mul_le bx.1 bx.2 bu.1 bu.2
  have m2 := mul_le bx.1 bx.2 bv.1 bv.2
  have m3 := mul_le byy.1 byy.2 bu.1 bu.2
  have m4 := mul_le byy.1 byy.2 bv.1 bv.2
  have e : a * b = x * u * 18446744073709551616 + (x * v + y * u) * 4294967296 + y * v := by
    have a1 : x * 4294967296 * (u * 4294967296) = x * u * 18446744073709551616 := by rw [Int.mul_assoc, Int.mul_left_comm 4294967296 u, ← Int.mul_assoc x u, show (4294967296 : Int) * 4294967296 = 18446744073709551616 from rfl]
    have a2 : x * 4294967296 * v = x * v * 4294967296 := Int.mul_right_comm x 4294967296 v
    have a3 : y * (u * 4294967296) = y * u * 4294967296 := (Int.mul_assoc y u 4294967296).symm
    have a4 : (x * 4294967296 + y) * (u * 4294967296 + v) = x * 4294967296 * (u * 4294967296) + x * 4294967296 * v + (y * (u * 4294967296) + y * v) := by rw [Int.add_mul, Int.mul_add, Int.mul_add]
    rw [ea, eb, a4, a1, a2, a3]
    omega
  rw [e]
  generalize x * u = p at m1 ⊢
  generalize x * v = q at m2 ⊢
  generalize y * u = r at m3 ⊢
  generalize y * v = s at m4 ⊢
  clear e ea eb hx hy hu hv ha ha' hb hb' bx byy bu bv
  refine congrArg some (Prod.ext ?_ rfl)
  show _ = (p * 18446744073709551616 + (q + r) * 4294967296 + s) / 18446744073709551616
  omega
theorem size_f {a : Int} (h : -9223372036854775808 ≤ a) (h' : a ≤ 9223372036854775807) : fix_size.f a = some (if a < 0 then -a else a) := by
  unfold fix_size.f
  simp only [u64w]
  by_cases c : a < 0
  · rw [if_pos c, if_pos c]
    exact congrArg some (by omega)
  · rw [if_neg c, if_neg c]
    exact congrArg some (by omega)
theorem apart_f (a b : Int) : fix_apart.f a b = some (decide (a ≠ 0 ∧ b ≠ 0) && (decide (a < 0) != decide (b < 0))) := by
  unfold fix_apart.f
  by_cases ha : a = 0
  · simp [ha]
  · by_cases hb : b = 0
    · simp [ha, hb]
    · simp [ha, hb]
/-- What is told of a number without its sign, and of whether something is left of it: floored. -/
def fsig (N : Int) (rest below : Bool) : Int × Int :=
  if below = true then (if 9223372036854775808 < (if rest = true then N + 1 else N) then (0, 10) else (-(if rest = true then N + 1 else N), 0))
  else (if 9223372036854775807 < N then (0, 10) else (N, 0))
theorem wsig_eq {N : Int} (h0 : 0 ≤ N) (h1 : N < 100000000000000000000000000000000000000) (rest below : Bool) : wsig (N / 18446744073709551616) (N % 18446744073709551616) rest below = fsig N rest below := by
  unfold wsig fsig
  simp only [u64w]
  cases below with
  | false =>
    simp only [Bool.false_eq_true, if_false]
    by_cases c : 9223372036854775807 < N
    · rw [if_pos (by omega), if_pos c]
    · rw [if_neg (by omega), if_neg c, w64 (by omega) (by omega)]
      exact congrArg (fun x => (x, (0 : Int))) (by omega)
  | true =>
    simp only [if_true]
    cases rest with
    | false =>
      simp only [Bool.false_eq_true, if_false]
      by_cases c : 9223372036854775808 < N
      · rw [if_pos (by omega), if_pos c]
      · rw [if_neg (by omega), if_neg c]
        exact congrArg (fun x => (x, (0 : Int))) (by unfold wrap64; omega)
    | true =>
      simp only [if_true]
      by_cases c : 9223372036854775808 < N + 1
      · rw [if_pos (by omega), if_pos c]
      · rw [if_neg (by omega), if_neg c]
        exact congrArg (fun x => (x, (0 : Int))) (by unfold wrap64; omega)
/-- A number that may be one, or that it may not. -/
def inw (v : Int) : Int × Int := if -9223372036854775808 ≤ v ∧ v ≤ 9223372036854775807 then (v, 0) else (0, 10)
theorem fsig_pos {N : Int} (h : 0 ≤ N) (rest : Bool) : fsig N rest false = inw N := by
  unfold fsig inw
  simp only [Bool.false_eq_true, if_false]
  by_cases c : 9223372036854775807 < N
  · rw [if_pos c, if_neg (by omega)]
  · rw [if_neg c, if_pos (by omega)]
theorem fsig_neg {N : Int} (h : 0 ≤ N) (rest : Bool) : fsig N rest true = inw (-(if rest = true then N + 1 else N)) := by
  unfold fsig inw
  simp only [if_true]
  cases rest with
  | false =>
    simp only [Bool.false_eq_true, if_false]
    by_cases c : 9223372036854775808 < N
    · rw [if_pos c, if_neg (by omega)]
    · rw [if_neg c, if_pos (by omega)]
  | true =>
    simp only [if_true]
    by_cases c : 9223372036854775808 < N + 1
    · rw [if_pos c, if_neg (by omega)]
    · rw [if_neg c, if_pos (by omega)]
/-- A product. -/
theorem mul_f {a b : Int} (ha : -9223372036854775808 ≤ a) (ha' : a ≤ 9223372036854775807) (hb : -9223372036854775808 ≤ b) (hb' : b ≤ 9223372036854775807) :
    fix_Mul.f a b = some (inw (a * b / 4294967296)) := by
  unfold fix_Mul.f
  rw [size_f ha ha', size_f hb hb', apart_f]
  simp only [Option.bind_some]
  obtain ⟨x, hx⟩ : ∃ x, x = (if a < 0 then -a else a) := ⟨_, rfl⟩
  obtain ⟨y, hy⟩ : ∃ y, y = (if b < 0 then -b else b) := ⟨_, rfl⟩
  rw [← hx, ← hy]
  have bx : 0 ≤ x ∧ x ≤ 9223372036854775808 := by subst hx; split <;> omega
  have byy : 0 ≤ y ∧ y ≤ 9223372036854775808 := by subst hy; split <;> omega
  rw [mul64 bx.1 (by omega) byy.1 (by omega)]
  simp only [Option.bind_some, u64w]
  have m := mul_le bx.1 bx.2 byy.1 byy.2
  have sg : (a ≠ 0 ∧ b ≠ 0 ∧ (decide (a < 0) != decide (b < 0)) = true ∧ x * y = -(a * b)) ∨ ((decide (a ≠ 0 ∧ b ≠ 0) && (decide (a < 0) != decide (b < 0))) = false ∧ x * y = a * b) := by
    by_cases ca : a < 0
    · by_cases cb : b < 0
      · right
        rw [hx, hy, if_pos ca, if_pos cb]
        exact ⟨by simp [ca, cb], Int.neg_mul_neg a b⟩
      · rw [hx, hy, if_pos ca, if_neg cb]
        by_cases cb0 : b = 0
        · right; subst cb0; simp
        · left; exact ⟨by omega, cb0, by simp [ca, cb], Int.neg_mul a b⟩
    · by_cases cb : b < 0
      · rw [hx, hy, if_neg ca, if_pos cb]
        by_cases ca0 : a = 0
        · right; subst ca0; simp
        · left; exact ⟨ca0, by omega, by simp [ca, cb], Int.mul_neg a b⟩
      · right
        rw [hx, hy, if_neg ca, if_neg cb]
        exact ⟨by simp [ca, cb], rfl⟩
  clear hx hy
  generalize x * y = P at m sg ⊢
  generalize a * b = S at sg ⊢
  rw [and32 (by omega) (by omega), or32 (by omega) (by omega) (by omega)]
  have e1 : P / 18446744073709551616 / 4294967296 = P / 4294967296 / 18446744073709551616 := by omega
  have e2 : P / 18446744073709551616 * 4294967296 % 18446744073709551616 + P % 18446744073709551616 / 4294967296 = P / 4294967296 % 18446744073709551616 := by omega
  rw [e1, e2, wsig_eq (by omega) (by omega)]
  rcases sg with ⟨h1, h2, h3, h4⟩ | ⟨h3, h4⟩
  · rw [h3, decide_eq_true (show a ≠ 0 ∧ b ≠ 0 from ⟨h1, h2⟩), Bool.and_true, fsig_neg (by omega)]
    refine congrArg (fun v => some (inw v)) ?_
    by_cases c : P % 18446744073709551616 % 4294967296 = 0
    · rw [c]; simp; omega
    · rw [if_pos (by simpa using c)]; omega
  · rw [h3, fsig_pos (by omega), h4]
end Go.Proofs.Ytkebkghhncelpaa.Plain
