/- That sums, products, quotients and powers of the greater number are not lesser; no conditions. -/
import Derived.Test.YtkebkghhncelpaaFixE
import Derived.Test.YtkebkghhncelpaaFixK
namespace Go.Proofs.Ytkebkghhncelpaa.Plain
open Go.RowKit Go.Proofs.Ytkebkghhncelpaa.A Go.Proofs.YtkebkghhncelpaaW.PrintWords Go.Proofs.YtkebkghhncelpaaW.PrintLast Go.Proofs.YtkebkghhncelpaaW.PrintMore
set_option linter.unusedVariables false
set_option linter.unusedSimpArgs false

/-- 2 to a power, of a number of so many parts. -/
def shv (n s : Int) : Int × Int := if s < 0 then (n / 2 ^ (mn (-s) 63).toNat, 0) else if s ≤ 30 then (n * 2 ^ s.toNat, 0) else (0, 10)
theorem pow30 {s : Int} (h : s ≤ 30) (h0 : 0 ≤ s) : (2 : Int) ^ s.toNat ≤ 1073741824 ∧ (0 : Int) < 2 ^ s.toNat := by
  have : ∀ t : Fin 31, (2 : Int) ^ t.val ≤ 1073741824 := by decide
  exact ⟨this ⟨s.toNat, by omega⟩, Int.pow_pos (by omega)⟩
theorem shifted_f {n s : Int} (h : 4294967296 ≤ n) (h' : n < 8589934592) (hs : -2147483648 ≤ s) (hs' : s ≤ 2147483647) (k : Nat) (hk : 200 ≤ k) : fix_shifted.f k n s = some (shv n s) := by
  unfold fix_shifted.f shv
  by_cases c : s < 0
  · rw [if_pos c, if_pos c, u64w, w64 (x := -s) (by omega) (by omega), show -s % 18446744073709551616 = -s by omega]
    have m0 : 0 ≤ mn (-s) 63 := by unfold mn; split <;> omega
    rw [if_pos m0]
    have q0 : (1 : Int) ≤ 2 ^ (mn (-s) 63).toNat := by have : (0 : Int) < 2 ^ (mn (-s) 63).toNat := Int.pow_pos (by omega); omega
    have q1 := Int.ediv_nonneg (show 0 ≤ n by omega) (show (0 : Int) ≤ 2 ^ (mn (-s) 63).toNat by omega)
    have q2 : n / 2 ^ (mn (-s) 63).toNat ≤ n := Int.ediv_le_self _ (by omega)
    rw [w64 (by omega) (by omega)]
  · rw [if_neg c, if_neg c]
    have m0 : 0 ≤ mn s 63 := by unfold mn; split <;> omega
    rw [if_pos m0]
    obtain ⟨t, ht, ht2, ht3⟩ := len_f (y := n) (by omega) (by omega) k (by omega)
    have t33 := bits33 h h' ht3 ht2
    subst t33
    rw [ht]
    simp only [Option.bind_some, u64w]
    rw [w64 (x := ((33 : Nat) : Int) + s) (by omega) (by omega)]
    unfold fix_told.f
    by_cases c2 : s ≤ 30
    · rw [decide_eq_true (show ((33 : Nat) : Int) + s < 64 by omega), if_pos rfl, if_pos c2]
      have e1 : (mn s 63).toNat = s.toNat := by unfold mn; split <;> omega
      obtain ⟨p, p0⟩ := pow30 c2 (by omega)
      have m := Int.mul_le_mul_of_nonneg_left p (show 0 ≤ n by omega)
      have m2 := Int.mul_nonneg (show 0 ≤ n by omega) (Int.le_of_lt p0)
      rw [e1]
      simp only [Option.some.injEq, Prod.mk.injEq, and_true, Option.bind_some]
      generalize n * 2 ^ s.toNat = z at *
      unfold wrap64
      omega
    · rw [decide_eq_false (show ¬ ((33 : Nat) : Int) + s < 64 by omega), if_neg (by simp), if_neg c2]
      rfl
theorem pow_val {a : Int} (h : -9223372036854775808 ≤ a) (h' : a ≤ 9223372036854775807) (k : Nat) (hk : 200 ≤ k) : fix_Pow.f k a = some (shv (4294967296 + a % 4294967296) (a / 4294967296)) := by
  unfold fix_Pow.f
  rw [and_i64, u64w]
  rw [w64 (x := 4294967296 + a % 4294967296) (by omega) (by omega), show (4294967296 + a % 4294967296) % 18446744073709551616 = 4294967296 + a % 4294967296 by omega]
  rw [shifted_f (n := 4294967296 + a % 4294967296) (s := a / 4294967296) (by omega) (by omega) (by omega) (by omega) k hk]
  rfl
theorem div_mono {n m : Int} (h : 0 ≤ n) (hnm : n ≤ m) {d e : Nat} (hde : e ≤ d) : n / 2 ^ d ≤ m / 2 ^ e := by
  have p1 : (0 : Int) < 2 ^ e := Int.pow_pos (by omega)
  have p2 : (0 : Int) < 2 ^ (d - e) := Int.pow_pos (by omega)
  have e1 : (2 : Int) ^ d = 2 ^ e * 2 ^ (d - e) := by rw [← Int.pow_add]; congr 1; omega
  rw [e1, ← Int.ediv_ediv_of_nonneg (Int.le_of_lt p1)]
  exact Int.le_trans (Int.ediv_le_self _ (Int.ediv_nonneg h (Int.le_of_lt p1))) (Int.ediv_le_ediv p1 hnm)
theorem shv_mono {n m s t : Int} (h : 4294967296 ≤ n) (h' : n < 8589934592) (g : 4294967296 ≤ m) (g' : m < 8589934592) (hst : s < t ∨ s = t ∧ n ≤ m) (ht : (shv m t).2 = 0) :
    (shv n s).2 = 0 ∧ 0 ≤ (shv n s).1 ∧ (shv n s).1 ≤ (shv m t).1 := by
  have t30 : t ≤ 30 := by
    by_cases c : t ≤ 30
    · exact c
    · unfold shv at ht
      rw [if_neg (by omega), if_neg c] at ht
      simp at ht
  unfold shv
  by_cases c : s < 0
  · rw [if_pos c]
    have p1 : (0 : Int) < 2 ^ (mn (-s) 63).toNat := Int.pow_pos (by omega)
    refine ⟨rfl, Int.ediv_nonneg (by omega) (Int.le_of_lt p1), ?_⟩
    have d1 : 1 ≤ (mn (-s) 63).toNat := by unfold mn; split <;> omega
    by_cases c2 : t < 0
    · rw [if_pos c2]
      show n / _ ≤ m / _
      rcases hst with q | ⟨q, q2⟩
      · by_cases c3 : -s ≤ 63
        · have e1 : (mn (-s) 63).toNat = (-s).toNat := by unfold mn; split <;> omega
          have e2 : (mn (-t) 63).toNat = (-t).toNat := by unfold mn; split <;> omega
          rw [e1, e2]
          have e3 : (-s).toNat = 1 + ((-s).toNat - 1) := by omega
          rw [e3, Int.pow_add, ← Int.ediv_ediv_of_nonneg (by decide)]
          exact div_mono (by omega) (by omega) (by omega)
        · have e1 : (mn (-s) 63).toNat = 63 := by unfold mn; split <;> omega
          rw [e1]
          have p3 : (2 : Int) ^ 63 = 9223372036854775808 := by decide
          have := Int.ediv_nonneg (show 0 ≤ m by omega) (show (0 : Int) ≤ 2 ^ (mn (-t) 63).toNat from Int.le_of_lt (Int.pow_pos (by omega)))
          have : n / 2 ^ 63 = 0 := by rw [p3]; omega
          omega
      · subst q
        exact div_mono (by omega) q2 (Nat.le_refl _)
    · rw [if_neg c2, if_pos t30]
      show n / _ ≤ m * _
      obtain ⟨p, p0⟩ := pow30 t30 (by omega)
      have q1 : n / 2 ^ (mn (-s) 63).toNat ≤ m := by
        obtain ⟨D, hD⟩ : ∃ D, (mn (-s) 63).toNat = 1 + D := ⟨(mn (-s) 63).toNat - 1, by omega⟩
        rw [hD, Int.pow_add, ← Int.ediv_ediv_of_nonneg (by decide)]
        have : n / 2 ^ 1 ≤ m := by omega
        exact Int.le_trans (Int.ediv_le_self _ (by omega)) this
      have q2 := Int.mul_le_mul_of_nonneg_left (show 1 ≤ (2 : Int) ^ t.toNat by omega) (show 0 ≤ m by omega)
      omega
  · rw [if_neg c, if_pos (show s ≤ 30 by omega), if_neg (show ¬ t < 0 by omega), if_pos t30]
    obtain ⟨p, p0⟩ := pow30 (show s ≤ 30 by omega) (by omega)
    refine ⟨rfl, Int.mul_nonneg (by omega) (Int.le_of_lt p0), ?_⟩
    show n * _ ≤ m * _
    rcases hst with q | ⟨q, q2⟩
    · obtain ⟨D, hD⟩ : ∃ D, t.toNat = s.toNat + 1 + D := ⟨t.toNat - s.toNat - 1, by omega⟩
      have p1 : (0 : Int) < 2 ^ D := Int.pow_pos (by omega)
      have e1 : m * 2 ^ t.toNat = (m * 2 * 2 ^ D) * 2 ^ s.toNat := by
        rw [hD, Int.pow_add, Int.pow_add, Int.pow_succ, Int.pow_zero, Int.one_mul, Int.mul_comm (2 ^ s.toNat) 2, Int.mul_assoc 2, Int.mul_comm (2 ^ s.toNat), ← Int.mul_assoc, ← Int.mul_assoc]
      rw [e1]
      refine Int.mul_le_mul_of_nonneg_right ?_ (Int.le_of_lt p0)
      have := Int.mul_le_mul_of_nonneg_left (show 1 ≤ (2 : Int) ^ D by omega) (show 0 ≤ m * 2 by omega)
      omega
    · subst q
      exact Int.mul_le_mul_of_nonneg_right q2 (Int.le_of_lt p0)
theorem nz {x : Int} (h : x ≠ 0) : (x != 0) = true := bne_iff_ne.mpr h
theorem iz {x : Int} (h : x = 0) : (x != 0) = false := bne_eq_false_iff_eq.mpr h
theorem inw_two {x y : Int} (h : (inw x).2 = 0) (h' : (inw y).2 = 0) (hxy : x ≤ y) : (inw x).1 ≤ (inw y).1 := by
  unfold inw at *
  split at h
  · split at h'
    · simp only [*, and_self, if_true]
    · simp at h'
  · simp at h
theorem order_pure (a b c : Int) (ha : -9223372036854775808 ≤ a ∧ a ≤ 9223372036854775807) (hb : -9223372036854775808 ≤ b ∧ b ≤ 9223372036854775807) (hc : -9223372036854775808 ≤ c ∧ c ≤ 9223372036854775807) :
    ∃ l g x e y f p gg q h d i k j m o n u : Int, (if b < a then b else a) = l ∧ (if a < b then b else a) = g ∧ fullerlaw01_awake.f 300 = some true ∧ fix_Add.f l c = some (x, e) ∧ fix_Add.f g c = some (y, f) ∧
      fix_Mul.f l c = some (p, gg) ∧ fix_Mul.f g c = some (q, h) ∧ fix_Div.f 300 l c = some (d, i) ∧ fix_Div.f 300 g c = some (k, j) ∧ fix_Pow.f 300 l = some (m, u) ∧ fix_Pow.f 300 g = some (n, o) ∧
      ((e != 0) = true ∨ (e != 0) = false ∧ (f != 0) = true ∨ (e != 0) = false ∧ (f != 0) = false ∧ decide (x ≤ y) = true) ∧
      ((gg != 0) = true ∨ (gg != 0) = false ∧ (h != 0) = true ∨ (gg != 0) = false ∧ (h != 0) = false ∧ decide (c < 0) = true ∨ (gg != 0) = false ∧ (h != 0) = false ∧ decide (c < 0) = false ∧ decide (p ≤ q) = true) ∧
      ((i != 0) = true ∨ (i != 0) = false ∧ (j != 0) = true ∨ (i != 0) = false ∧ (j != 0) = false ∧ decide (c ≤ 0) = true ∨ (i != 0) = false ∧ (j != 0) = false ∧ decide (c ≤ 0) = false ∧ decide (d ≤ k) = true) ∧
      ((o != 0) = true ∨ (o != 0) = false ∧ (u == 0) = true ∧ decide (m ≤ n) = true ∧ decide (0 ≤ m) = true) := by
  obtain ⟨l, hl⟩ : ∃ l, (if b < a then b else a) = l := ⟨_, rfl⟩
  obtain ⟨g, hg⟩ : ∃ g, (if a < b then b else a) = g := ⟨_, rfl⟩
  have bl : -9223372036854775808 ≤ l ∧ l ≤ g ∧ g ≤ 9223372036854775807 := by
    subst hl hg
    split <;> split <;> omega
  have D : ∃ d i k j : Int, fix_Div.f 300 l c = some (d, i) ∧ fix_Div.f 300 g c = some (k, j) ∧ (i = 0 → j = 0 → 0 < c → d ≤ k) := by
    by_cases c0 : c = 0
    · exact ⟨0, 11, 0, 11, by unfold fix_Div.f; rw [if_pos c0], by unfold fix_Div.f; rw [if_pos c0], fun h => by cases h⟩
    · obtain ⟨v, e1, f1⟩ := div_f (a := l) (by omega) (by omega) hc.1 hc.2 c0 300 (by omega)
      obtain ⟨u, e2, f2⟩ := div_f (a := g) (by omega) (by omega) hc.1 hc.2 c0 300 (by omega)
      refine ⟨_, _, _, _, e1, e2, fun z1 z2 hp => inw_two z1 z2 ?_⟩
      have g1 := f1.1 hp
      have g2 := f2.1 hp
      by_cases z : v ≤ u
      · exact z
      · have := Int.mul_le_mul_of_nonneg_right (show u + 1 ≤ v by omega) (Int.le_of_lt hp)
        rw [Int.add_mul, Int.one_mul] at this
        omega
  obtain ⟨d, i, k, j, d1, d2, d3⟩ := D
  refine ⟨l, g, _, _, _, _, _, _, _, _, d, i, k, j, _, (shv (4294967296 + g % 4294967296) (g / 4294967296)).2, _, _, hl, hg, awake_f _ (by omega), add_f (by omega) (by omega) hc.1 hc.2, add_f (by omega) (by omega) hc.1 hc.2, mul_f (by omega) (by omega) hc.1 hc.2, mul_f (by omega) (by omega) hc.1 hc.2, d1, d2, pow_val (by omega) (by omega) 300 (by omega), pow_val (by omega) (by omega) 300 (by omega), ?_, ?_, ?_, ?_⟩
  · by_cases z1 : (inw (l + c)).2 = 0
    · by_cases z2 : (inw (g + c)).2 = 0
      · exact Or.inr (Or.inr ⟨iz z1, iz z2, decide_eq_true (inw_two z1 z2 (by omega))⟩)
      · exact Or.inr (Or.inl ⟨iz z1, nz z2⟩)
    · exact Or.inl (nz z1)
  · by_cases z1 : (inw (l * c / 4294967296)).2 = 0
    · by_cases z2 : (inw (g * c / 4294967296)).2 = 0
      · refine Or.inr (Or.inr ?_)
        by_cases z3 : c < 0
        · exact Or.inl ⟨iz z1, iz z2, decide_eq_true z3⟩
        · refine Or.inr ⟨iz z1, iz z2, decide_eq_false z3, decide_eq_true (inw_two z1 z2 ?_)⟩
          have := Int.mul_le_mul_of_nonneg_right bl.2.1 (show 0 ≤ c by omega)
          generalize l * c = S at *
          generalize g * c = T at *
          omega
      · exact Or.inr (Or.inl ⟨iz z1, nz z2⟩)
    · exact Or.inl (nz z1)
  · by_cases z1 : i = 0
    · by_cases z2 : j = 0
      · refine Or.inr (Or.inr ?_)
        by_cases z3 : c ≤ 0
        · exact Or.inl ⟨iz z1, iz z2, decide_eq_true z3⟩
        · exact Or.inr ⟨iz z1, iz z2, decide_eq_false z3, decide_eq_true (d3 z1 z2 (by omega))⟩
      · exact Or.inr (Or.inl ⟨iz z1, nz z2⟩)
    · exact Or.inl (nz z1)
  · by_cases z1 : (shv (4294967296 + g % 4294967296) (g / 4294967296)).2 = 0
    · obtain ⟨q1, q2, q3⟩ := shv_mono (n := 4294967296 + l % 4294967296) (m := 4294967296 + g % 4294967296) (s := l / 4294967296) (t := g / 4294967296) (by omega) (by omega) (by omega) (by omega) (by omega) z1
      exact Or.inr ⟨iz z1, beq_iff_eq.mpr q1, decide_eq_true q3, decide_eq_true q2⟩
    · exact Or.inl (nz z1)
end Go.Proofs.Ytkebkghhncelpaa.Plain
