/- Tensors, in plain words; no conditions. -/
import Derived.Test.YtoiaegbhnpddlaaTenM
import Derived.Test.YtoiaegbhnpddlaaAx2
import Derived.Test.YtoiaegbhnpddlaaAx6
import Derived.Test.YtoiaegbhnpddlaaAx8
namespace Go.Proofs.Ytoiaegbhnpddlaa.Plain
open Go.RowKit Go.Proofs.Ytoiaegbhnpddlaa.A Go.Proofs.YtoiaegbhnpddlaaW.PrintWords Go.Proofs.YtoiaegbhnpddlaaW.PrintLast Go.Proofs.YtoiaegbhnpddlaaW.PrintMore
set_option linter.unusedVariables false
set_option linter.unusedSimpArgs false
/-- A number that may be one, or that it may not. -/
def inw (v : Int) : Int × Int := if -9223372036854775808 ≤ v ∧ v ≤ 9223372036854775807 then (v, 0) else (0, 10)
theorem inw_in {v : Int} (h : -9223372036854775808 ≤ v) (h' : v ≤ 9223372036854775807) : inw v = (v, 0) := by unfold inw; rw [if_pos ⟨h, h'⟩]
theorem inw_out {v : Int} (h : ¬ (-9223372036854775808 ≤ v ∧ v ≤ 9223372036854775807)) : inw v = (0, 10) := by unfold inw; rw [if_neg h]
theorem add_f {a b : Int} (ha : -9223372036854775808 ≤ a) (ha' : a ≤ 9223372036854775807) (hb : -9223372036854775808 ≤ b) (hb' : b ≤ 9223372036854775807) : fix_Add.f a b = some (inw (a + b)) := by
  unfold fix_Add.f fix_told.f
  by_cases c : (decide (a < 0) != decide (b < 0)) = true
  · rw [if_pos c]
    have c2 : (a < 0 ∧ ¬ b < 0) ∨ (¬ a < 0 ∧ b < 0) := by
      by_cases x : a < 0 <;> by_cases y : b < 0 <;> simp [x, y] at c ⊢
    rw [inw_in (by omega) (by omega), w64 (by omega) (by omega)]
    simp
  · rw [if_neg c]
    have c2 : (a < 0 ∧ b < 0) ∨ (¬ a < 0 ∧ ¬ b < 0) := by
      by_cases x : a < 0 <;> by_cases y : b < 0 <;> simp [x, y] at c ⊢
    by_cases f : -9223372036854775808 ≤ a + b ∧ a + b ≤ 9223372036854775807
    · rw [inw_in f.1 f.2, w64 f.1 f.2]
      have e : (decide (a + b < 0) == decide (a < 0)) = true := by
        rcases c2 with h | h
        · rw [decide_eq_true (show a + b < 0 by omega), decide_eq_true h.1]; rfl
        · rw [decide_eq_false (show ¬ a + b < 0 by omega), decide_eq_false h.1]; rfl
      rw [e]
      simp
    · rw [inw_out f]
      have e : (decide (wrap64 (a + b) < 0) == decide (a < 0)) = false := by
        rcases c2 with h | h
        · rw [decide_eq_false (show ¬ wrap64 (a + b) < 0 by unfold wrap64; omega), decide_eq_true h.1]; rfl
        · rw [decide_eq_true (show wrap64 (a + b) < 0 by unfold wrap64; omega), decide_eq_false h.1]; rfl
      rw [e]
      simp
theorem inw_rng (v : Int) : -9223372036854775808 ≤ (inw v).1 ∧ (inw v).1 ≤ 9223372036854775807 := by
  unfold inw
  split
  · assumption
  · decide
/-- May a tensor be? -/
def tchk (s d : List Int) : Bool := chk s && decide ((d.length : Int) = siz s)
theorem tcheck_f (s d : List Int) (k : Nat) (hk : 5 ≤ k) : tensor_Check.f k s d = some (tchk s d) := by
  unfold tensor_Check.f tchk
  rw [check_f s k hk]
  simp only [Option.bind_some]
  cases h : chk s with
  | false => simp
  | true =>
    rw [if_pos rfl, size_f s k hk]
    simp only [Option.bind_some, Bool.true_and]
    by_cases h : (d.length : Int) = siz s <;> simp [h]
theorem tchk_len {s d : List Int} (h : tchk s d = true) : s.length ≤ 3 ∧ d.length ≤ 64 := by
  simp only [tchk, Bool.and_eq_true, decide_eq_true_eq] at h
  have := siz_le s
  exact ⟨(chk_iff.mp h.1).1, by omega⟩
/-- At most a hundred sides, and numbers. -/
def fewT (s d : List Int) : Bool := decide (s.length ≤ 100) && decide (d.length ≤ 100)
theorem few_f (s d : List Int) : fullerref03_Few.f s d = some (fewT s d) := by
  unfold fullerref03_Few.f fewT
  by_cases h : (s.length : Int) ≤ 100
  · rw [if_pos h, decide_eq_true (show s.length ≤ 100 by omega), Bool.true_and]
    congr 1
    exact decide_eq_decide.mpr (by omega)
  · rw [if_neg h, decide_eq_false (show ¬ s.length ≤ 100 by omega), Bool.false_and]
theorem tsame_f (s d : List Int) (k : Nat) (hk : s.length + d.length + 1 ≤ k) (hm : k ≤ 9223372036854775806) : fullerref03_Same.f k s d s d = some true := by
  unfold fullerref03_Same.f
  rw [same_f s s (by omega) k (by omega)]
  simp only [Option.bind_some, decide_true, if_true]
  rw [same_f d d (by omega) k (by omega)]
  simp
theorem tsame_iff (s d s' d' : List Int) (k : Nat) (hk : s.length + d.length + 1 ≤ k) (hm : k ≤ 9223372036854775806) : fullerref03_Same.f k s d s' d' = some (decide (s = s') && decide (d = d')) := by
  unfold fullerref03_Same.f
  rw [same_f s s' (by omega) k (by omega)]
  simp only [Option.bind_some]
  by_cases h : s = s'
  · simp only [h, decide_true, if_true]
    rw [same_f d d' (by omega) k (by omega)]
    simp
  · simp [h]
end Go.Proofs.Ytoiaegbhnpddlaa.Plain
