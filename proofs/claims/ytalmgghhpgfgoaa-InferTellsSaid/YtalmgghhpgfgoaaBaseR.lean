/- What the document's functions of layer 2 that other layers use answer, in plain words; no conditions. -/
import Derived.Test.YtalmgghhpgfgoaaAx10
import Derived.Test.YtalmgghhpgfgoaaAx11
import Derived.Test.YtalmgghhpgfgoaaAx14
import Derived.Test.YtalmgghhpgfgoaaAx13
import Derived.Test.YtalmgghhpgfgoaaInfA
namespace Go.Proofs.Ytalmgghhpgfgoaa.Plain
open Go.RowKit Go.Proofs.Ytalmgghhpgfgoaa.A Go.Proofs.YtalmgghhpgfgoaaW.PrintWords Go.Proofs.YtalmgghhpgfgoaaW.PrintLast Go.Proofs.YtalmgghhpgfgoaaW.PrintMore
set_option linter.unusedVariables false
set_option linter.unusedSimpArgs false
theorem w4 : wrap64 (-1) = -1 := by simp [wrap64]
theorem rproduct_f {s : List Int} (hs : ∀ x ∈ s, 1 ≤ x ∧ x ≤ 16) (hl : s.length ≤ 3) (k : Nat) (hk : 5 ≤ k) : fullerref02_product.f k s = some (prod s) := by
  unfold fullerref02_product.f
  obtain ⟨k, rfl⟩ : ∃ m, k = m + 5 := ⟨k - 5, by omega⟩
  match s with
  | [] => simp [fullerref02_product.l0, prod]
  | [a] =>
    have ha := hs a (by simp)
    have e : wrap64 a = a := by rw [w64] <;> omega
    simp [fullerref02_product.l0, prod, rd0, w0, e]
  | [a, b] =>
    have ha := hs a (by simp)
    have hb := hs b (by simp)
    have e : wrap64 a = a := by rw [w64] <;> omega
    have m := mulb ha.1 ha.2 hb.1 hb.2
    have e2 : wrap64 (a * b) = a * b := by rw [w64] <;> omega
    simp [fullerref02_product.l0, prod, rd0, rd1, w0, w1, e, e2]
  | [a, b, c] =>
    have ha := hs a (by simp)
    have hb := hs b (by simp)
    have hc := hs c (by simp)
    have e : wrap64 a = a := by rw [w64] <;> omega
    have m := mulb ha.1 ha.2 hb.1 hb.2
    have e2 : wrap64 (a * b) = a * b := by rw [w64] <;> omega
    have m2 := mulb m.1 m.2 hc.1 hc.2
    have e3 : wrap64 (a * b * c) = a * b * c := by rw [w64] <;> omega
    rw [show prod [a, b, c] = a * b * c by simp [prod, Int.mul_assoc]]
    simp [fullerref02_product.l0, rd0, rd1, rd2, w0, w1, w2, e, e2, e3]
  | a :: b :: c :: d :: s => simp at hl
theorem rcheck_l0 (s : List Int) (hl : s.length ≤ 3) (d : Nat) : ∀ (k i : Nat), s.length - i = d → i ≤ s.length → d + 6 ≤ k → (∀ x ∈ s.take i, 1 ≤ x ∧ x ≤ 16) →
    fullerref02_Check.l0 k s (i : Int) = some (chk s) := by
  induction d with
  | zero =>
    intro k i hd hi hk h
    obtain ⟨k, rfl⟩ : ∃ m, k = m + 1 := ⟨k - 1, by omega⟩
    rw [List.take_of_length_le (by omega)] at h
    simp only [fullerref02_Check.l0]
    rw [if_neg (by omega), rproduct_f h hl k (by omega)]
    have : sides s = true := sides_iff.mpr h
    simp [chk, this, hl]
  | succ d ih =>
    intro k i hd hi hk h
    obtain ⟨k, rfl⟩ : ∃ m, k = m + 1 := ⟨k - 1, by omega⟩
    have hlt : i < s.length := by omega
    simp only [fullerref02_Check.l0]
    rw [if_pos (by omega), if_pos (by omega), rd_lt hlt]
    by_cases h1 : 1 ≤ s[i] ∧ s[i] ≤ 16
    · rw [if_neg (by omega), if_neg (by omega)]
      have hn : ∀ x ∈ s.take (i + 1), 1 ≤ x ∧ x ≤ 16 := by
        intro x hx
        rw [List.take_add_one, List.mem_append] at hx
        rcases hx with hx | hx
        · exact h x hx
        · simp [List.getElem?_eq_getElem hlt] at hx; rw [hx]; exact h1
      have hgo := ih k (i + 1) (by omega) (by omega) (by omega) hn
      have e : wrap64 ((i : Int) + 1) = ((i + 1 : Nat) : Int) := by rw [w64] <;> omega
      rw [e, hgo]
    · have hn : sides s = false := by
        rw [Bool.eq_false_iff]; intro hh; exact h1 (sides_iff.mp hh _ (List.getElem_mem hlt))
      have hc : chk s = false := by simp [chk, hn]
      rw [hc]
      by_cases h2 : s[i] < 1
      · rw [if_pos h2]
      · rw [if_neg h2, if_pos (by omega)]
theorem rcheck_f (s : List Int) (k : Nat) (hk : 10 ≤ k) : fullerref02_Check.f k s = some (chk s) := by
  unfold fullerref02_Check.f
  by_cases h : s.length ≤ 3
  · rw [if_neg (by omega)]
    exact rcheck_l0 s h s.length k 0 (by omega) (by omega) (by omega) (by simp)
  · rw [if_pos (by omega)]
    have : chk s = false := by simp [chk, h]
    rw [this]
theorem rsize_f (s : List Int) (k : Nat) (hk : 10 ≤ k) : fullerref02_Size.f k s = some (siz s) := by
  unfold fullerref02_Size.f siz
  rw [rcheck_f s k hk]
  simp only [Option.bind_some]
  by_cases h : chk s = true
  · rw [if_pos h, if_pos h, rproduct_f (chk_sides h) (chk_len h) k (by omega)]; rfl
  · rw [if_neg h, if_neg h]
def padded (s : List Int) (n : Nat) : List Int := List.replicate (n - s.length) 1 ++ s
theorem padded_length (s : List Int) (n : Nat) : (padded s n).length = max n s.length := by simp [padded]; omega
theorem wide_l0 (n : Nat) (hn : n ≤ 100) (d : Nat) : ∀ (k : Nat) (s : List Int), s.length ≤ 100 → n - s.length = d → d < k → fullerref02_Wide.l0 k (n : Int) s = some (padded s n) := by
  induction d with
  | zero =>
    intro k s hs hd hk
    obtain ⟨k, rfl⟩ : ∃ m, k = m + 1 := ⟨k - 1, by omega⟩
    simp only [fullerref02_Wide.l0]
    rw [if_neg (by omega)]
    simp [padded, hd]
  | succ d ih =>
    intro k s hs hd hk
    obtain ⟨k, rfl⟩ : ∃ m, k = m + 1 := ⟨k - 1, by omega⟩
    simp only [fullerref02_Wide.l0]
    rw [if_pos (by omega)]
    simp only [Option.bind_some, List.length_cons, List.length_nil]
    rw [if_pos (by omega)]
    have := ih k ([1] ++ s) (by simp; omega) (by simp; omega) (by omega)
    rw [this]
    unfold padded
    have e : n - s.length = (n - ([1] ++ s).length) + 1 := by simp; omega
    rw [e, List.replicate_succ']
    simp
theorem wide_f (s : List Int) (n : Nat) (hs : s.length ≤ 100) (hn : n ≤ 100) (k : Nat) (hk : 101 ≤ k) : fullerref02_Wide.f k s (n : Int) = some (padded s n) := by
  unfold fullerref02_Wide.f
  simp only [Option.bind_some, List.length_nil, List.nil_append]
  rw [if_pos (by omega)]
  exact wide_l0 n hn (n - s.length) k s hs rfl (by omega)
theorem padded_at (s : List Int) (n q : Nat) (h : q < (padded s n).length) : (padded s n)[q] = sd s (max n s.length - 1 - q) := by
  have h' := h
  rw [padded_length] at h'
  unfold sd
  by_cases hq : q < n - s.length
  · rw [if_neg (by omega)]
    simp only [padded]
    rw [List.getElem_append_left (by simp; exact hq)]
    simp
  · rw [if_pos (by omega)]
    simp only [padded]
    rw [List.getElem_append_right (by simp; omega), getD_lt _ (by omega)]
    congr 1
    simp
    omega
theorem or_one {u v : Int} (hu : 1 ≤ u) (hv : 1 ≤ v) : ((u = 1 ∨ u = mx u v) ∧ (v = 1 ∨ v = mx u v)) ↔ fit2 u v := by
  unfold mx fit2
  split <;> omega
theorem rjoin_l0 (x y J : List Int) (n : Nat) (hn : n ≤ 100) (hx : x.length = n) (hy : y.length = n) (hJ : J.length = n) (px : ∀ (q : Nat) (h : q < n), 1 ≤ x[q] ∧ 1 ≤ y[q])
    (hv : ∀ (q : Nat) (h : q < n), J[q] = mx x[q] y[q]) (d : Nat) :
    ∀ (k i : Nat), n - i = d → i ≤ n → d + 12 ≤ k → fullerref02_Join.l0 k x y (J.take i) (i : Int) =
      some (if (∀ q, (h : q < n) → i ≤ q → fit2 x[q] y[q]) ∧ chk J = true then (J, 0) else ([], 20)) := by
  induction d with
  | zero =>
    intro k i hd hi hk
    obtain ⟨k, rfl⟩ : ∃ m, k = m + 1 := ⟨k - 1, by omega⟩
    simp only [fullerref02_Join.l0]
    rw [if_neg (by omega), List.take_of_length_le (by omega), rcheck_f J k (by omega)]
    have h : ∀ q, (h : q < n) → i ≤ q → fit2 x[q] y[q] := fun q _ _ => by omega
    simp only [Option.bind_some]
    by_cases hc : chk J = true
    · rw [if_pos hc, if_pos ⟨h, hc⟩]
    · rw [if_neg hc, if_neg (fun z => hc z.2)]
  | succ d ih =>
    intro k i hd hi hk
    obtain ⟨k, rfl⟩ : ∃ m, k = m + 1 := ⟨k - 1, by omega⟩
    have hlt : i < n := by omega
    obtain ⟨p1, p2⟩ := px i hlt
    have hm := hv i hlt
    have htake : J.take i ++ [mx x[i] y[i]] = J.take (i + 1) := by
      rw [List.take_add_one, List.getElem?_eq_getElem (by omega), hm]; rfl
    have hgo := ih k (i + 1) (by omega) (by omega) (by omega)
    have hlim : (J.take i).length < 17592186044416 := by simp; omega
    have hor := or_one p1 p2
    have hnext : fit2 x[i] y[i] → (((∀ q, (h : q < n) → i + 1 ≤ q → fit2 x[q] y[q]) ∧ chk J = true) ↔ ((∀ q, (h : q < n) → i ≤ q → fit2 x[q] y[q]) ∧ chk J = true)) := by
      intro hf
      constructor
      · rintro ⟨a, b⟩
        refine ⟨fun q h1 h2 => ?_, b⟩
        by_cases e : q = i
        · subst e; exact hf
        · exact a q h1 (by omega)
      · rintro ⟨a, b⟩
        exact ⟨fun q h1 h2 => a q h1 (by omega), b⟩
    have hbad : ¬ fit2 x[i] y[i] → ¬ ((∀ q, (h : q < n) → i ≤ q → fit2 x[q] y[q]) ∧ chk J = true) := fun hf z => hf (z.1 i hlt (Nat.le_refl _))
    simp only [fullerref02_Join.l0]
    rw [if_pos (by omega), if_pos (by omega), if_pos (by omega), rd_lt (show i < x.length by omega), rd_lt (show i < y.length by omega)]
    have e : wrap64 ((i : Int) + 1) = ((i + 1 : Nat) : Int) := by rw [w64] <;> omega
    rw [e, htake, hgo]
    clear e
    by_cases hf : fit2 x[i] y[i]
    · simp only [hnext hf, if_pos hlim]
      obtain ⟨q1, q2⟩ := hor.mpr hf
      by_cases h1 : x[i] = 1
      · rw [if_pos h1]
        by_cases h2 : y[i] = 1
        · rw [if_pos h2]
        · rw [if_neg h2, if_pos (by omega)]
      · rw [if_neg h1, if_pos (by omega)]
        by_cases h2 : y[i] = 1
        · rw [if_pos h2]
        · rw [if_neg h2, if_pos (by omega)]
    · rw [if_neg (hbad hf)]
      have hno := fun z => hf (hor.mp z)
      by_cases h1 : x[i] = 1
      · rw [if_pos h1]
        by_cases h2 : y[i] = 1
        · exact absurd ⟨.inl h1, .inl h2⟩ hno
        · rw [if_neg h2, if_neg (fun h3 => hno ⟨.inl h1, .inr h3⟩)]
      · rw [if_neg h1]
        by_cases h3 : x[i] = mx x[i] y[i]
        · rw [if_pos h3]
          by_cases h2 : y[i] = 1
          · exact absurd ⟨.inr h3, .inl h2⟩ hno
          · rw [if_neg h2, if_neg (fun h4 => hno ⟨.inr h3, .inr h4⟩)]
        · rw [if_neg h3]
theorem rjoin_f (a b : List Int) (k : Nat) (hk : 120 ≤ k) : fullerref02_Join.f k a b = some (join a b) := by
  unfold fullerref02_Join.f
  rw [rcheck_f a k (by omega), rcheck_f b k (by omega)]
  obtain ⟨k, rfl⟩ : ∃ m, k = m + 1 := ⟨k - 1, by omega⟩
  simp only [Option.bind_some]
  by_cases ha : chk a = true
  · rw [if_pos ha]
    by_cases hb : chk b = true
    · rw [hb]
      have la := chk_len ha
      have lb := chk_len hb
      simp only [fullerref02_Join.j0, Bool.not_true, Bool.false_eq_true, if_false]
      rw [wide_f a b.length (by omega) (by omega) k (by omega), wide_f b a.length (by omega) (by omega) k (by omega)]
      simp only [Option.bind_some]
      have hx : (padded a b.length).length = max a.length b.length := by rw [padded_length]; omega
      have hy : (padded b a.length).length = max a.length b.length := by rw [padded_length]
      have ax : ∀ (q : Nat) (h : q < max a.length b.length), (padded a b.length)[q]'(by omega) = sd a (max a.length b.length - 1 - q) := by
        intro q h; rw [padded_at, Nat.max_comm]
      have ay : ∀ (q : Nat) (h : q < max a.length b.length), (padded b a.length)[q]'(by omega) = sd b (max a.length b.length - 1 - q) := by
        intro q h; rw [padded_at]
      have := rjoin_l0 (padded a b.length) (padded b a.length) (jl a b) (max a.length b.length) (by omega) hx hy (jl_length a b)
        (fun q h => by rw [ax q h, ay q h]; exact ⟨(sd_pos (chk_sides ha) _).1, (sd_pos (chk_sides hb) _).1⟩)
        (fun q h => by rw [ax q h, ay q h]; simp [jl, mx_bigger]) (max a.length b.length) k 0 (by omega) (by omega) (by omega)
      simp only [List.take_zero] at this
      rw [show ((0 : Nat) : Int) = 0 from rfl] at this
      rw [this]
      unfold join
      have hiff : ((∀ q, (h : q < max a.length b.length) → 0 ≤ q → fit2 ((padded a b.length)[q]'(by omega)) ((padded b a.length)[q]'(by omega))) ∧ chk (jl a b) = true) ↔ jok a b = true := by
        rw [jok_iff]
        constructor
        · rintro ⟨h1, h2⟩
          refine ⟨ha, hb, fun i hi => ?_, h2⟩
          have := h1 (max a.length b.length - 1 - i) (by omega) (by omega)
          rw [ax _ (by omega), ay _ (by omega)] at this
          have e : max a.length b.length - 1 - (max a.length b.length - 1 - i) = i := by omega
          rw [e] at this
          exact this
        · rintro ⟨_, _, h1, h2⟩
          refine ⟨fun q h _ => ?_, h2⟩
          rw [ax q h, ay q h]
          exact h1 _ (by omega)
      simp only [hiff]
    · have hb' : chk b = false := by simpa using hb
      rw [hb']
      simp [fullerref02_Join.j0, join, jok, hb']
  · have ha' : chk a = false := by simpa using ha
    rw [if_neg ha]
    simp [fullerref02_Join.j0, join, jok, ha']
end Go.Proofs.Ytalmgghhpgfgoaa.Plain
