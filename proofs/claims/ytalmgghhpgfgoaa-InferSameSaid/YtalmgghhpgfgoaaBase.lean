/- What the functions of layer 2 answer, in plain words; no conditions. -/
import Derived.Test.YtalmgghhpgfgoaaAx1
import Derived.Test.YtalmgghhpgfgoaaAx3
import Derived.Test.YtalmgghhpgfgoaaAx4
import Derived.Test.YtalmgghhpgfgoaaAx5
import Derived.Test.YtalmgghhpgfgoaaAx2
import Derived.Test.YtalmgghhpgfgoaaAx9
import Derived.Test.YtalmgghhpgfgoaaShapeA
namespace Go.Proofs.Ytalmgghhpgfgoaa.Plain
open Go.RowKit Go.Proofs.Ytalmgghhpgfgoaa.A Go.Proofs.YtalmgghhpgfgoaaW.PrintWords Go.Proofs.YtalmgghhpgfgoaaW.PrintLast Go.Proofs.YtalmgghhpgfgoaaW.PrintMore
set_option linter.unusedVariables false
set_option linter.unusedSimpArgs false
theorem wz : wrap64 0 = 0 := by simp [wrap64]
theorem w0 : wrap64 1 = 1 := by simp [wrap64]
theorem w1 : wrap64 2 = 2 := by simp [wrap64]
theorem w2 : wrap64 3 = 3 := by simp [wrap64]
theorem mx_bigger (x y : Int) : mx x y = bigger x y := rfl
theorem rd0 (a : Int) (s : List Int) : rd (a :: s) 0 = a := rfl
theorem rd1 (a b : Int) (s : List Int) : rd (a :: b :: s) 1 = b := rfl
theorem rd2 (a b c : Int) (s : List Int) : rd (a :: b :: c :: s) 2 = c := rfl
theorem check_f (s : List Int) (k : Nat) (hk : 5 ≤ k) : shape_Check.f k s = some (chk s) := by
  obtain ⟨k, rfl⟩ : ∃ m, k = m + 5 := ⟨k - 5, by omega⟩
  unfold shape_Check.f
  match s with
  | [] => simp [shape_Check.l0, chk, prod, sides]
  | [a] =>
    by_cases h1 : a < 1
    · have : ¬ 1 ≤ a := by omega
      simp [shape_Check.l0, chk, prod, sides, rd0, h1, this]
    · by_cases h2 : a > 16
      · have : ¬ a ≤ 16 := by omega
        simp [shape_Check.l0, chk, prod, sides, rd0, h1, h2, this]
      · have e : wrap64 (1 * a) = a := by rw [w64] <;> omega
        have a1 : 1 ≤ a := by omega
        have a2 : a ≤ 16 := by omega
        have a3 : 0 < a := by omega
        simp only [Int.one_mul] at e
        simp [shape_Check.l0, chk, prod, sides, rd0, h1, h2, w0, e, a1, a2, a3]
  | [a, b] =>
    by_cases h1 : 1 ≤ a ∧ a ≤ 16
    · obtain ⟨a1, a2⟩ := h1
      have a3 : ¬ a < 1 := by omega
      have a4 : ¬ a > 16 := by omega
      have e : wrap64 a = a := by rw [w64] <;> omega
      by_cases h2 : 1 ≤ b ∧ b ≤ 16
      · obtain ⟨b1, b2⟩ := h2
        have b3 : ¬ b < 1 := by omega
        have b4 : ¬ b > 16 := by omega
        have m := mulb a1 a2 b1 b2
        have e2 : wrap64 (a * b) = a * b := by rw [w64] <;> omega
        have p : 0 < a * b := by omega
        simp [shape_Check.l0, chk, prod, sides, rd0, rd1, w0, w1, e, e2, a1, a2, a3, a4, b1, b2, b3, b4, p]
      · have hn : sides [a, b] = false := by
          rw [Bool.eq_false_iff]; intro h; have := sides_iff.mp h b (by simp); omega
        have hc : chk [a, b] = false := by simp [chk, hn]
        rw [hc]
        by_cases b3 : b < 1
        · simp [shape_Check.l0, rd0, rd1, w0, e, a3, a4, b3]
        · have b4 : b > 16 := by omega
          simp [shape_Check.l0, rd0, rd1, w0, e, a3, a4, b3, b4]
    · have hn : sides [a, b] = false := by
        rw [Bool.eq_false_iff]; intro h; have := sides_iff.mp h a (by simp); omega
      have hc : chk [a, b] = false := by simp [chk, hn]
      rw [hc]
      by_cases b3 : a < 1
      · simp [shape_Check.l0, rd0, b3]
      · have b4 : a > 16 := by omega
        simp [shape_Check.l0, rd0, b3, b4]
  | [a, b, c] =>
    by_cases h1 : 1 ≤ a ∧ a ≤ 16
    · obtain ⟨a1, a2⟩ := h1
      have a3 : ¬ a < 1 := by omega
      have a4 : ¬ a > 16 := by omega
      have e : wrap64 a = a := by rw [w64] <;> omega
      by_cases h2 : 1 ≤ b ∧ b ≤ 16
      · obtain ⟨b1, b2⟩ := h2
        have b3 : ¬ b < 1 := by omega
        have b4 : ¬ b > 16 := by omega
        have m := mulb a1 a2 b1 b2
        have e2 : wrap64 (a * b) = a * b := by rw [w64] <;> omega
        by_cases h3 : 1 ≤ c ∧ c ≤ 16
        · obtain ⟨c1, c2⟩ := h3
          have c3 : ¬ c < 1 := by omega
          have c4 : ¬ c > 16 := by omega
          have m2 := mulb m.1 m.2 c1 c2
          have e3 : wrap64 (a * b * c) = a * b * c := by rw [w64] <;> omega
          have p : 0 < a * b * c := by omega
          simp [shape_Check.l0, chk, prod, sides, rd0, rd1, rd2, w0, w1, w2, e, e2, e3, a1, a2, a3, a4, b1, b2, b3, b4, c1, c2, c3, c4, p, Int.mul_assoc]
          simp [← Int.mul_assoc, e3, p]
        · have hn : sides [a, b, c] = false := by
            rw [Bool.eq_false_iff]; intro h; have := sides_iff.mp h c (by simp); omega
          have hc : chk [a, b, c] = false := by simp [chk, hn]
          rw [hc]
          by_cases c3 : c < 1
          · simp [shape_Check.l0, rd0, rd1, rd2, w0, w1, e, e2, a3, a4, b3, b4, c3]
          · have c4 : c > 16 := by omega
            simp [shape_Check.l0, rd0, rd1, rd2, w0, w1, e, e2, a3, a4, b3, b4, c3, c4]
      · have hn : sides [a, b, c] = false := by
          rw [Bool.eq_false_iff]; intro h; have := sides_iff.mp h b (by simp); omega
        have hc : chk [a, b, c] = false := by simp [chk, hn]
        rw [hc]
        by_cases b3 : b < 1
        · simp [shape_Check.l0, rd0, rd1, w0, e, a3, a4, b3]
        · have b4 : b > 16 := by omega
          simp [shape_Check.l0, rd0, rd1, w0, e, a3, a4, b3, b4]
    · have hn : sides [a, b, c] = false := by
        rw [Bool.eq_false_iff]; intro h; have := sides_iff.mp h a (by simp); omega
      have hc : chk [a, b, c] = false := by simp [chk, hn]
      rw [hc]
      by_cases b3 : a < 1
      · simp [shape_Check.l0, rd0, b3]
      · have b4 : a > 16 := by omega
        simp [shape_Check.l0, rd0, b3, b4]
  | a :: b :: c :: d :: s =>
    have h : chk (a :: b :: c :: d :: s) = false := by simp [chk]
    have h2 : ((a :: b :: c :: d :: s).length : Int) > 3 := by simp; omega
    rw [if_pos h2, h]
/-- A shape that may be is one of four forms. -/
theorem chk_cases {s : List Int} (h : chk s = true) : s = [] ∨ (∃ a, s = [a] ∧ 1 ≤ a ∧ a ≤ 16) ∨ (∃ a b, s = [a, b] ∧ 1 ≤ a ∧ a ≤ 16 ∧ 1 ≤ b ∧ b ≤ 16 ∧ a * b ≤ 64) ∨
    ∃ a b c, s = [a, b, c] ∧ 1 ≤ a ∧ a ≤ 16 ∧ 1 ≤ b ∧ b ≤ 16 ∧ 1 ≤ c ∧ c ≤ 16 ∧ a * b * c ≤ 64 := by
  obtain ⟨h1, h2, h3⟩ := chk_iff.mp h
  match s with
  | [] => exact .inl rfl
  | [a] => have := h2 a (by simp); exact .inr (.inl ⟨a, rfl, this⟩)
  | [a, b] =>
    have := h2 a (by simp); have := h2 b (by simp)
    simp [prod] at h3
    exact .inr (.inr (.inl ⟨a, b, rfl, by omega, by omega, by omega, by omega, h3⟩))
  | [a, b, c] =>
    have := h2 a (by simp); have := h2 b (by simp); have := h2 c (by simp)
    rw [show prod [a, b, c] = a * b * c by simp [prod, Int.mul_assoc]] at h3
    exact .inr (.inr (.inr ⟨a, b, c, rfl, by omega, by omega, by omega, by omega, by omega, by omega, h3⟩))
  | a :: b :: c :: d :: s => simp at h1
theorem size_f (s : List Int) (k : Nat) (hk : 5 ≤ k) : shape_Size.f k s = some (siz s) := by
  unfold shape_Size.f siz
  rw [check_f s k hk]
  obtain ⟨k, rfl⟩ : ∃ m, k = m + 5 := ⟨k - 5, by omega⟩
  simp only [Option.bind_some]
  by_cases h : chk s = true
  · rw [if_pos h, if_pos h]
    rcases chk_cases h with rfl | ⟨a, rfl, a1, a2⟩ | ⟨a, b, rfl, a1, a2, b1, b2, _⟩ | ⟨a, b, c, rfl, a1, a2, b1, b2, c1, c2, _⟩
    · simp [shape_Size.l0, prod]
    · have e : wrap64 a = a := by rw [w64] <;> omega
      simp [shape_Size.l0, prod, rd0, w0, e]
    · have e : wrap64 a = a := by rw [w64] <;> omega
      have m := mulb a1 a2 b1 b2
      have e2 : wrap64 (a * b) = a * b := by rw [w64] <;> omega
      simp [shape_Size.l0, prod, rd0, rd1, w0, w1, e, e2]
    · have e : wrap64 a = a := by rw [w64] <;> omega
      have m := mulb a1 a2 b1 b2
      have e2 : wrap64 (a * b) = a * b := by rw [w64] <;> omega
      have m2 := mulb m.1 m.2 c1 c2
      have e3 : wrap64 (a * b * c) = a * b * c := by rw [w64] <;> omega
      rw [show prod [a, b, c] = a * b * c by simp [prod, Int.mul_assoc]]
      simp [shape_Size.l0, rd0, rd1, rd2, w0, w1, w2, e, e2, e3]
  · rw [if_neg h, if_neg h]
theorem siz_le (s : List Int) : siz s ≤ 64 := by
  unfold siz
  split
  · rename_i h; exact (chk_iff.mp h).2.2
  · omega
theorem rd_lt {l : List Int} {i : Nat} (h : i < l.length) : rd l (i : Int) = l[i] := by
  unfold rd
  simp [List.getD_eq_getElem?_getD, h]
theorem same_l0 (x y : List Int) (hl : x.length = y.length) (hm : x.length ≤ 9223372036854775806) (d : Nat) : ∀ (k i : Nat), x.length - i = d → i ≤ x.length → d < k →
    fullerref02_Same.l0 k x y (i : Int) = some (decide (x.drop i = y.drop i)) := by
  induction d with
  | zero =>
    intro k i hd hi hk
    obtain ⟨k, rfl⟩ : ∃ m, k = m + 1 := ⟨k - 1, by omega⟩
    simp only [fullerref02_Same.l0]
    rw [if_neg (by omega), List.drop_of_length_le (by omega), List.drop_of_length_le (by omega)]
    simp
  | succ d ih =>
    intro k i hd hi hk
    obtain ⟨k, rfl⟩ : ∃ m, k = m + 1 := ⟨k - 1, by omega⟩
    have h1 : i < x.length := by omega
    have h2 : i < y.length := by omega
    simp only [fullerref02_Same.l0]
    rw [if_pos (by omega), if_pos (by omega), if_pos (by omega), rd_lt h1, rd_lt h2, List.drop_eq_getElem_cons h1, List.drop_eq_getElem_cons h2]
    have e : wrap64 ((i : Int) + 1) = ((i + 1 : Nat) : Int) := by rw [w64] <;> omega
    rw [e, ih k (i + 1) (by omega) (by omega) (by omega)]
    by_cases h : x[i] = y[i]
    · rw [if_pos h]
      exact congrArg some (decide_eq_decide.mpr (by rw [List.cons.injEq]; exact ⟨fun e => ⟨h, e⟩, fun e => e.2⟩))
    · rw [if_neg h]
      exact congrArg some (decide_eq_false (fun e => h (List.cons.inj e).1)).symm
theorem same_f (x y : List Int) (hm : x.length ≤ 9223372036854775806) (k : Nat) (hk : x.length < k) : fullerref02_Same.f k x y = some (decide (x = y)) := by
  unfold fullerref02_Same.f
  by_cases h : x.length = y.length
  · rw [if_pos (by omega)]
    have := same_l0 x y h hm x.length k 0 (by omega) (by omega) hk
    simpa using this
  · rw [if_neg (by omega)]
    have : x ≠ y := fun e => h (by rw [e])
    simp [this]
theorem equal_l0 (x y : List Int) (hl : x.length = y.length) (hm : x.length ≤ 9223372036854775806) (d : Nat) : ∀ (k i : Nat), x.length - i = d → i ≤ x.length → d < k →
    slices_Equal_int_int.l0 k x y (x.length : Int) (i : Int) = some (decide (x.drop i = y.drop i)) := by
  induction d with
  | zero =>
    intro k i hd hi hk
    obtain ⟨k, rfl⟩ : ∃ m, k = m + 1 := ⟨k - 1, by omega⟩
    simp only [slices_Equal_int_int.l0]
    rw [if_neg (by omega), List.drop_of_length_le (by omega), List.drop_of_length_le (by omega)]
    simp
  | succ d ih =>
    intro k i hd hi hk
    obtain ⟨k, rfl⟩ : ∃ m, k = m + 1 := ⟨k - 1, by omega⟩
    have h1 : i < x.length := by omega
    have h2 : i < y.length := by omega
    simp only [slices_Equal_int_int.l0]
    rw [if_pos (by omega), if_pos (by omega), if_pos (by omega), if_pos (by omega), rd_lt h1, rd_lt h2, List.drop_eq_getElem_cons h1, List.drop_eq_getElem_cons h2]
    have e : wrap64 ((i : Int) + 1) = ((i + 1 : Nat) : Int) := by rw [w64] <;> omega
    rw [e, ih k (i + 1) (by omega) (by omega) (by omega)]
    by_cases h : x[i] = y[i]
    · rw [if_pos h]
      exact congrArg some (decide_eq_decide.mpr (by rw [List.cons.injEq]; exact ⟨fun e => ⟨h, e⟩, fun e => e.2⟩))
    · rw [if_neg h]
      exact congrArg some (decide_eq_false (fun e => h (List.cons.inj e).1)).symm
theorem equal_f (x y : List Int) (hm : x.length ≤ 9223372036854775806) (k : Nat) (hk : x.length < k) : slices_Equal_int_int.f k x y = some (decide (x = y)) := by
  unfold slices_Equal_int_int.f
  by_cases h : x.length = y.length
  · rw [if_pos (by omega)]
    have := equal_l0 x y h hm x.length k 0 (by omega) (by omega) hk
    simpa using this
  · rw [if_neg (by omega)]
    have : x ≠ y := fun e => h (by rw [e])
    simp [this]
theorem side_f (s : List Int) (hs : s.length ≤ 1000) (i : Nat) (hi : i ≤ 1000) : shape_side.f s (i : Int) = some (sd s i) := by
  unfold shape_side.f sd
  by_cases h : i < s.length
  · rw [if_neg (by omega), if_pos h]
    have e1 : wrap64 ((s.length : Int) - 1) = (s.length : Int) - 1 := by rw [w64] <;> omega
    have e2 : wrap64 ((s.length : Int) - 1 - (i : Int)) = ((s.length - 1 - i : Nat) : Int) := by rw [w64] <;> omega
    rw [e1, e2, if_pos (by omega), if_pos (by omega), rd_lt (by omega), getD_lt _ (by omega)]
  · rw [if_pos (by omega), if_neg h]
theorem set_fin {x : List Int} {J : List Int} {n i : Nat} (hx : x.length = n) (hJ : J.length = n) (hi : i < n) {v : Int} (hv : J[n - 1 - i]'(by omega) = v) :
    J.take (n - (i + 1)) ++ (x.set (n - 1 - i) v).drop (n - (i + 1)) = J.take (n - i) ++ x.drop (n - i) := by
  apply List.ext_getElem
  · simp; omega
  · intro j h1 h2
    simp at h1
    by_cases hj : j < n - (i + 1)
    · rw [List.getElem_append_left (by simp; omega), List.getElem_append_left (by simp; omega)]
      simp
    · rw [List.getElem_append_right (by simp; omega)]
      by_cases hj2 : j = n - 1 - i
      · subst hj2
        rw [List.getElem_append_left (by simp; omega)]
        have : n - (i + 1) + (n - 1 - i - min (n - (i + 1)) J.length) = n - 1 - i := by omega
        simp [this, List.getElem_set, hv]
      · rw [List.getElem_append_right (by simp; omega)]
        have e1 : n - (i + 1) + (j - min (n - (i + 1)) J.length) = j := by omega
        have e2 : n - i + (j - min (n - i) J.length) = j := by omega
        have e3 : ¬ n - 1 - i = j := by omega
        simp [e1, e2, List.getElem_set, e3]
/-- The loop's answer, from a side on. -/
def jrest (a b J x : List Int) (n i : Nat) : List Int × Int :=
  if ∀ q, q < n → i ≤ q → fit2 (sd a q) (sd b q) then (if chk (J.take (n - i) ++ x.drop (n - i)) = true then (J.take (n - i) ++ x.drop (n - i), 0) else ([], 20)) else ([], 20)
theorem join_l0 (a b J : List Int) (n : Nat) (ha : a.length ≤ 100) (hb : b.length ≤ 100) (hn : n ≤ 100) (hJ : J.length = n) (hv : ∀ (q : Nat) (h : q < n), J[n - 1 - q]'(by omega) = mx (sd a q) (sd b q)) (d : Nat) :
    ∀ (k i : Nat) (x : List Int), x.length = n → n - i = d → i ≤ n → d + 6 ≤ k → shape_Join.l0 k a b x (n : Int) (i : Int) = some (jrest a b J x n i) := by
  induction d with
  | zero =>
    intro k i x hx hd hi hk
    obtain ⟨k, rfl⟩ : ∃ m, k = m + 1 := ⟨k - 1, by omega⟩
    simp only [shape_Join.l0]
    rw [if_neg (by omega), check_f x k (by omega)]
    have e : n - i = 0 := by omega
    have h : ∀ q, q < n → i ≤ q → fit2 (sd a q) (sd b q) := fun q _ _ => by omega
    simp only [jrest, if_pos h, e, Option.bind_some, List.take_zero, List.drop_zero, List.nil_append]
    by_cases hc : chk x = true <;> simp [hc]
  | succ d ih =>
    intro k i x hx hd hi hk
    obtain ⟨k, rfl⟩ : ∃ m, k = m + 1 := ⟨k - 1, by omega⟩
    simp only [shape_Join.l0]
    rw [if_pos (by omega), side_f a (by omega) i (by omega), side_f b (by omega) i (by omega)]
    simp only [Option.bind_some]
    have e1 : wrap64 ((x.length : Int) - 1) = (x.length : Int) - 1 := by rw [w64] <;> omega
    have e2 : wrap64 ((x.length : Int) - 1 - (i : Int)) = ((n - 1 - i : Nat) : Int) := by rw [w64] <;> omega
    have e3 : wrap64 ((i : Int) + 1) = ((i + 1 : Nat) : Int) := by rw [w64] <;> omega
    rw [e1, e2, e3]
    clear e1 e2 e3
    have i1 : (0 : Int) ≤ ((n - 1 - i : Nat) : Int) := by omega
    have i2 : ((n - 1 - i : Nat) : Int) < (x.length : Int) := by omega
    rw [if_pos i1, if_pos i2, Int.toNat_natCast]
    have hgo := ih k (i + 1) (x.set (n - 1 - i) (mx (sd a i) (sd b i))) (by simp [hx]) (by omega) (by omega) (by omega)
    rw [hgo]
    have hf := set_fin hx hJ (by omega : i < n) (hv i (by omega))
    have key : fit2 (sd a i) (sd b i) → jrest a b J (x.set (n - 1 - i) (mx (sd a i) (sd b i))) n (i + 1) = jrest a b J x n i := by
      intro hfit
      unfold jrest
      rw [hf]
      have : (∀ q, q < n → i + 1 ≤ q → fit2 (sd a q) (sd b q)) ↔ ∀ q, q < n → i ≤ q → fit2 (sd a q) (sd b q) := by
        constructor
        · intro h q h1 h2
          by_cases e : q = i
          · subst e; exact hfit
          · exact h q h1 (by omega)
        · intro h q h1 h2; exact h q h1 (by omega)
      simp only [this]
    by_cases h1 : sd a i = sd b i
    · rw [if_pos h1, key (.inl h1)]
    · rw [if_neg h1]
      by_cases h2 : sd a i = 1
      · rw [if_pos h2, key (.inr (.inl h2))]
      · rw [if_neg h2]
        by_cases h3 : sd b i = 1
        · rw [if_pos h3, key (.inr (.inr h3))]
        · rw [if_neg h3]
          have : ¬ ∀ q, q < n → i ≤ q → fit2 (sd a q) (sd b q) := fun h => by
            have := h i (by omega) (Nat.le_refl _); unfold fit2 at this; omega
          simp [jrest, this]
theorem jl_at (a b : List Int) (q : Nat) (h : q < max a.length b.length) : (jl a b)[max a.length b.length - 1 - q]'(by rw [jl_length]; omega) = mx (sd a q) (sd b q) := by
  have e : max a.length b.length - 1 - (max a.length b.length - 1 - q) = q := by omega
  simp [jl, e, mx_bigger]
theorem mx_len (a b : List Int) : mx (a.length : Int) (b.length : Int) = ((max a.length b.length : Nat) : Int) := by unfold mx; split <;> omega
theorem join_f (a b : List Int) (k : Nat) (hk : 20 ≤ k) : shape_Join.f k a b = some (join a b) := by
  unfold shape_Join.f
  rw [check_f a k (by omega), check_f b k (by omega)]
  obtain ⟨k, rfl⟩ : ∃ m, k = m + 1 := ⟨k - 1, by omega⟩
  simp only [Option.bind_some]
  by_cases ha : chk a = true
  · rw [if_pos ha]
    by_cases hb : chk b = true
    · rw [hb]
      have la := chk_len ha
      have lb := chk_len hb
      simp only [shape_Join.j0, Bool.not_true, Bool.false_eq_true, if_false]
      rw [mx_len, if_pos (by omega), Int.toNat_natCast, if_pos (by omega)]
      simp only [Option.bind_some, List.length_replicate]
      have := join_l0 a b (jl a b) (max a.length b.length) (by omega) (by omega) (by omega) (jl_length a b) (fun q h => jl_at a b q h) (max a.length b.length) k 0 (List.replicate (max a.length b.length) 0) (by simp) (by omega) (by omega) (by omega)
      simp only [Int.natCast_zero] at this
      rw [this]
      simp only [jrest, Nat.sub_zero]
      have e1 : (jl a b).take (max a.length b.length) = jl a b := List.take_of_length_le (by rw [jl_length]; omega)
      have e2 : (List.replicate (max a.length b.length) (0 : Int)).drop (max a.length b.length) = [] := List.drop_of_length_le (by simp)
      rw [e1, e2, List.append_nil]
      unfold join
      by_cases h : alike a b
      · rw [if_pos (fun q h2 _ => h q h2)]
        by_cases hc : chk (jl a b) = true
        · rw [if_pos hc, if_pos (jok_iff.mpr ⟨ha, hb, h, hc⟩)]
        · rw [if_neg hc, if_neg (fun h => hc (jok_iff.mp h).2.2.2)]
      · rw [if_neg (fun h2 => h (fun q h3 => h2 q h3 (by omega))), if_neg (fun h2 => h (jok_iff.mp h2).2.2.1)]
    · have hb' : chk b = false := by simpa using hb
      rw [hb']
      simp [shape_Join.j0, join, jok, hb']
  · have ha' : chk a = false := by simpa using ha
    rw [if_neg ha]
    simp [shape_Join.j0, join, jok, ha']
theorem join_len (a b : List Int) : (join a b).1.length ≤ 3 := by
  unfold join
  split
  · rename_i h; exact chk_len (jok_iff.mp h).2.2.2
  · simp
end Go.Proofs.Ytalmgghhpgfgoaa.Plain
