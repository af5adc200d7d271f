/- What the document's functions of layer 2 that other layers use answer, in plain words; no conditions. -/
import Derived.Test.YtklnbfdoklcmfaaAx12
import Derived.Test.YtklnbfdoklcmfaaAx13
import Derived.Test.YtklnbfdoklcmfaaGrA
namespace Go.Proofs.Ytklnbfdoklcmfaa.Plain
open Go.RowKit Go.Proofs.Ytklnbfdoklcmfaa.A Go.Proofs.YtklnbfdoklcmfaaW.PrintWords Go.Proofs.YtklnbfdoklcmfaaW.PrintLast Go.Proofs.YtklnbfdoklcmfaaW.PrintMore
set_option linter.unusedVariables false
set_option linter.unusedSimpArgs false
theorem w4 : wrap64 (-1) = -1 := by simp [wrap64]
theorem rproduct_f {s : List Int} (hs : ∀ x ∈ s, 1 ≤ x ∧ x ≤ 16) (hl : s.length ≤ 3) (k : Nat) (hk : 5 ≤ k) : fullerref02_product.f k s = some (prod s) := by
  unfold fullerref02_product.f
  obtain ⟨k, rfl⟩ : ∃ m, k = m + 5 := ⟨k - 5, by omega⟩
  match s with
  | [] => simp [fullerref02_product.l0, prod]
  | [a] =>
    have ha := hs a (by simp)
    have e : wrap64 a = a := by rw [w64] <;> omega
    simp [fullerref02_product.l0, prod, rd0, w0, e]
  | [a, b] =>
    have ha := hs a (by simp)
    have hb := hs b (by simp)
    have e : wrap64 a = a := by rw [w64] <;> omega
    have m := mulb ha.1 ha.2 hb.1 hb.2
    have e2 : wrap64 (a * b) = a * b := by rw [w64] <;> omega
    simp [fullerref02_product.l0, prod, rd0, rd1, w0, w1, e, e2]
  | [a, b, c] =>
    have ha := hs a (by simp)
    have hb := hs b (by simp)
    have hc := hs c (by simp)
    have e : wrap64 a = a := by rw [w64] <;> omega
    have m := mulb ha.1 ha.2 hb.1 hb.2
    have e2 : wrap64 (a * b) = a * b := by rw [w64] <;> omega
    have m2 := mulb m.1 m.2 hc.1 hc.2
    have e3 : wrap64 (a * b * c) = a * b * c := by rw [w64] <;> omega
    rw [show prod [a, b, c] = a * b * c by simp [prod, Int.mul_assoc]]
    simp [fullerref02_product.l0, rd0, rd1, rd2, w0, w1, w2, e, e2, e3]
  | a :: b :: c :: d :: s => simp at hl
theorem rcheck_l0 (s : List Int) (hl : s.length ≤ 3) (d : Nat) : ∀ (k i : Nat), s.length - i = d → i ≤ s.length → d + 6 ≤ k → (∀ x ∈ s.take i, 1 ≤ x ∧ x ≤ 16) →
    fullerref02_Check.l0 k s (i : Int) = some (chk s) := by
  induction d with
  | zero =>
    intro k i hd hi hk h
    obtain ⟨k, rfl⟩ : ∃ m, k = m + 1 := ⟨k - 1, by omega⟩
    rw [List.take_of_length_le (by omega)] at h
    simp only [fullerref02_Check.l0]
    rw [if_neg (by omega), rproduct_f h hl k (by omega)]
    have : sides s = true := sides_iff.mpr h
    simp [chk, this, hl]
  | succ d ih =>
    intro k i hd hi hk h
    obtain ⟨k, rfl⟩ : ∃ m, k = m + 1 := ⟨k - 1, by omega⟩
    have hlt : i < s.length := by omega
    simp only [fullerref02_Check.l0]
    rw [if_pos (by omega), if_pos (by omega), rd_lt hlt]
    by_cases h1 : 1 ≤ s[i] ∧ s[i] ≤ 16
    · rw [if_neg (by omega), if_neg (by omega)]
      have hn : ∀ x ∈ s.take (i + 1), 1 ≤ x ∧ x ≤ 16 := by
        intro x hx
        rw [List.take_add_one, List.mem_append] at hx
        rcases hx with hx | hx
        · exact h x hx
        · simp [List.getElem?_eq_getElem hlt] at hx; rw [hx]; exact h1
      have hgo := ih k (i + 1) (by omega) (by omega) (by omega) hn
      have e : wrap64 ((i : Int) + 1) = ((i + 1 : Nat) : Int) := by rw [w64] <;> omega
      rw [e, hgo]
    · have hn : sides s = false := by
        rw [Bool.eq_false_iff]; intro hh; exact h1 (sides_iff.mp hh _ (List.getElem_mem hlt))
      have hc : chk s = false := by simp [chk, hn]
      rw [hc]
      by_cases h2 : s[i] < 1
      · rw [if_pos h2]
      · rw [if_neg h2, if_pos (by omega)]
theorem rcheck_f (s : List Int) (k : Nat) (hk : 10 ≤ k) : fullerref02_Check.f k s = some (chk s) := by
  unfold fullerref02_Check.f
  by_cases h : s.length ≤ 3
  · rw [if_neg (by omega)]
    exact rcheck_l0 s h s.length k 0 (by omega) (by omega) (by omega) (by simp)
  · rw [if_pos (by omega)]
    have : chk s = false := by simp [chk, h]
    rw [this]
end Go.Proofs.Ytklnbfdoklcmfaa.Plain
