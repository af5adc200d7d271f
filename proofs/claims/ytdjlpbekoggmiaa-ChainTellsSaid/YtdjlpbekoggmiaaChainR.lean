/- What the document's functions of layer 17 answer, in plain words; no conditions. -/
import Derived.Test.YtdjlpbekoggmiaaChainA
import Derived.Test.YtdjlpbekoggmiaaBaseR
import Derived.Test.YtdjlpbekoggmiaaAx14
import Derived.Test.YtdjlpbekoggmiaaAx15
import Derived.Test.YtdjlpbekoggmiaaAx16
import Derived.Test.YtdjlpbekoggmiaaAx17
import Derived.Test.YtdjlpbekoggmiaaAx20
namespace Go.Proofs.Ytdjlpbekoggmiaa.Plain
open Go.RowKit Go.Proofs.Ytdjlpbekoggmiaa.A Go.Proofs.YtdjlpbekoggmiaaW.PrintWords Go.Proofs.YtdjlpbekoggmiaaW.PrintLast Go.Proofs.YtdjlpbekoggmiaaW.PrintMore
set_option linter.unusedVariables false
set_option linter.unusedSimpArgs false
theorem rtcheck_f (s d : List Int) (k : Nat) (hk : 10 ≤ k) : fullerref03_Check.f k s d = some (tchk s d) := by
  unfold fullerref03_Check.f tchk
  rw [rcheck_f s k hk]
  simp only [Option.bind_some]
  cases h : chk s with
  | false => simp
  | true =>
    rw [if_pos rfl, rsize_f s k hk]
    simp only [Option.bind_some, Bool.true_and]
    by_cases h : (d.length : Int) = siz s <;> simp [h]
theorem rchk_l0 (l : List S41) (hm : l.length ≤ 9223372036854775806) (d : Nat) : ∀ (k i : Nat) (p : Int), l.length - i = d → i ≤ l.length → d + 20 ≤ k → -1 ≤ p → (i = 0 → p = -1) → (∀ j, i = j + 1 → ∃ h : j < l.length, p = l[j].f0) →
    fullerref17_Check.l0 k l (i : Int) = some ((asc p (l.drop i) && (l.drop i).all (good (hd l))) && decide (l.length ≤ 16)) := by
  induction d with
  | zero =>
    intro k i p hdd hi hk _ _ _
    obtain ⟨k, rfl⟩ : ∃ m, k = m + 1 := ⟨k - 1, by omega⟩
    simp only [fullerref17_Check.l0]
    rw [if_neg (by omega), List.drop_eq_nil_of_le (by omega)]
    simp only [asc, List.all_nil, Bool.and_self, Bool.true_and]
    congr 1
    exact decide_eq_decide.mpr (by omega)
  | succ d ih =>
    intro k i p hdd hi hk hp hp0 hpj
    obtain ⟨k, rfl⟩ : ∃ m, k = m + 1 := ⟨k - 1, by omega⟩
    have hlt : i < l.length := by omega
    have hw : wrap64 ((i : Int) + 1) = ((i + 1 : Nat) : Int) := by rw [w64 (by omega) (by omega)]; omega
    simp only [fullerref17_Check.l0]
    rw [if_pos (by omega), if_pos (by omega), rdV hlt, dropV hlt, rtcheck_f _ _ k (by omega)]
    simp only [Option.bind_some, asc, List.all_cons]
    cases ht : tchk l[i].f1.f0 l[i].f1.f1 with
    | false => simp [good, ht]
    | true =>
      have hl := tchk_len ht
      rw [if_pos rfl]
      by_cases h0 : l[i].f0 < 0
      · rw [if_pos h0]
        have : decide (p < l[i].f0) = false := decide_eq_false (by omega)
        simp [this]
      · rw [if_neg h0]
        rcases Nat.eq_zero_or_pos i with hi0 | hip
        · subst hi0
          obtain rfl := hp0 rfl
          have hg : good (hd l) l[0] = true := by
            have : l[0].f1.f0 = hd l := by rw [← rd_head hlt, show (0 : Int) = ((0 : Nat) : Int) from rfl, rdV hlt]
            simp only [good, ht, Bool.true_and]; exact decide_eq_true this
          rw [if_neg (by omega), hw, ih k 1 l[0].f0 (by omega) (by omega) (by omega) (by omega) (by omega) (fun j hj => (have e : j = 0 := by omega
            by subst e; exact ⟨by omega, rfl⟩))]
          have : decide ((-1 : Int) < l[0].f0) = true := decide_eq_true (by omega)
          simp only [this, hg, Bool.true_and, Nat.zero_add]
        · obtain ⟨j, rfl⟩ : ∃ j, i = j + 1 := ⟨i - 1, by omega⟩
          obtain ⟨hj, rfl⟩ := hpj j rfl
          have hw1 : wrap64 (((j + 1 : Nat) : Int) - 1) = (j : Int) := by rw [w64 (by omega) (by omega)]; omega
          rw [if_pos (by omega), hw1, if_pos (by omega), if_pos (by omega), rdV hj]
          by_cases hle : l[j + 1].f0 ≤ l[j].f0
          · rw [if_pos hle]
            have : decide (l[j].f0 < l[j + 1].f0) = false := decide_eq_false (by omega)
            simp [this]
          · rw [if_neg hle, if_pos (by omega), rd_head (by omega), same_f _ _ (by omega) k (by omega)]
            simp only [Option.bind_some]
            have h1 : decide (l[j].f0 < l[j + 1].f0) = true := decide_eq_true (by omega)
            by_cases he : l[j + 1].f1.f0 = hd l
            · have hg : good (hd l) l[j + 1] = true := by simp only [good, ht, Bool.true_and]; exact decide_eq_true he
              simp only [he, decide_true, if_true, hg, h1, Bool.true_and]
              rw [hw, ih k (j + 1 + 1) l[j + 1].f0 (by omega) (by omega) (by omega) (by omega) (by omega) (fun q hq => (have e : q = j + 1 := by omega
                by subst e; exact ⟨by omega, rfl⟩))]
            · have hg : good (hd l) l[j + 1] = false := by simp [good, he]
              simp [he, hg]
theorem rvchk_f (l : List S41) (hm : l.length ≤ 9223372036854775806) (k : Nat) (hk : l.length + 20 ≤ k) : fullerref17_Check.f k l = some (vchk l) := by
  unfold fullerref17_Check.f vchk
  have := rchk_l0 l hm l.length k 0 (-1) (by omega) (by omega) (by omega) (by omega) (fun _ => rfl) (fun j hj => by omega)
  simp only [Int.natCast_zero, List.drop_zero] at this
  rw [this, Bool.and_comm]
theorem at_l0 (l : List S41) (a : Int) (hm : l.length ≤ 9223372036854775806) (d : Nat) : ∀ (k i : Nat) (o : Int), l.length - i = d → i ≤ l.length → d + 1 ≤ k → fullerref17_at.l0 k l a o (i : Int) = some (lastAt a (l.drop i) i o) := by
  induction d with
  | zero =>
    intro k i o hdd hi hk
    obtain ⟨k, rfl⟩ : ∃ m, k = m + 1 := ⟨k - 1, by omega⟩
    simp only [fullerref17_at.l0]
    rw [if_neg (by omega), List.drop_eq_nil_of_le (by omega)]
    rfl
  | succ d ih =>
    intro k i o hdd hi hk
    obtain ⟨k, rfl⟩ : ∃ m, k = m + 1 := ⟨k - 1, by omega⟩
    have hlt : i < l.length := by omega
    have hw : wrap64 ((i : Int) + 1) = ((i + 1 : Nat) : Int) := by rw [w64 (by omega) (by omega)]; omega
    simp only [fullerref17_at.l0]
    rw [if_pos (by omega), if_pos (by omega), rdV hlt, dropV hlt, hw]
    simp only [lastAt]
    split
    · rw [ih k (i + 1) i (by omega) (by omega) (by omega)]; simp
    · rw [ih k (i + 1) o (by omega) (by omega) (by omega)]; simp
theorem at_f (l : List S41) (a : Int) (hm : l.length ≤ 9223372036854775806) (k : Nat) (hk : l.length + 1 ≤ k) : fullerref17_at.f k l a = some (lastAt a l 0 (-1)) := by
  unfold fullerref17_at.f
  have := at_l0 l a hm l.length k 0 (-1) (by omega) (by omega) hk
  simpa using this
theorem rread_f (l : List S41) (a : Int) (hm : l.length ≤ 9223372036854775806) (k : Nat) (hk : l.length + 20 ≤ k) : fullerref17_Read.f k l a = some (rdv l a) := by
  unfold fullerref17_Read.f
  rw [rvchk_f l hm k hk, at_f l a hm k (by omega)]
  simp only [Option.bind_some]
  have hb := bh_le l a
  cases hv : vchk l with
  | false => simp [rdv, hv]
  | true =>
    rw [if_pos rfl, at_ok l a hv]
    by_cases h0 : bh l a = 0
    · rw [if_pos (by omega), rdv_none h0]
    · have e : (bh l a : Int) - 1 = ((bh l a - 1 : Nat) : Int) := by omega
      rw [if_neg (by omega), e, if_pos (by omega), if_pos (by omega), rdV (by omega), rdv_ok hv (by omega)]
theorem rnewer_f (l : List S41) (a : Int) (hm : l.length ≤ 9223372036854775806) (k : Nat) (hk : l.length + 20 ≤ k) : fullerref17_Newer.f k l a = some (nw l a) := by
  unfold fullerref17_Newer.f nw
  rw [rvchk_f l hm k hk]
  simp only [Option.bind_some]
  cases hv : vchk l with
  | false => simp
  | true =>
    rw [if_pos rfl]
    have hi := bh_lt_iff (a := a) (vchk_iff.mp hv).2.1
    by_cases h0 : (l.length : Int) > 0
    · obtain ⟨hw, hl⟩ := last_rd (l := l) (by omega) hm
      rw [if_pos h0, hw, if_pos (by omega), if_pos (by omega), rdV (by omega)]
      simp only [Bool.true_and]
      congr 1
      refine decide_eq_decide.mpr ?_
      rw [hi, hl]
      exact ⟨fun h => ⟨_, rfl, h⟩, fun ⟨v, e, h⟩ => by cases e; exact h⟩
    · rw [if_neg h0]
      simp only [Bool.true_and]
      congr 1
      exact (decide_eq_false (by have := bh_le l a; omega)).symm
theorem rtrim_f (l : List S41) (a : Int) (hm : l.length ≤ 9223372036854775806) (k : Nat) (hk : l.length + 20 ≤ k) : fullerref17_Trim.f k l a = some (tr l a) := by
  unfold fullerref17_Trim.f tr
  rw [rvchk_f l hm k hk, at_f l a hm k (by omega)]
  simp only [Option.bind_some]
  cases hv : vchk l with
  | false => simp
  | true =>
    have hb := bh_le l a
    rw [if_pos rfl, at_ok l a hv]
    by_cases h0 : bh l a = 0
    · rw [if_pos (by omega), h0]; rfl
    · rw [if_neg (by omega), if_pos (by omega), if_pos (by omega), if_pos rfl, show ((bh l a : Int) - 1).toNat = bh l a - 1 by omega]
theorem rput_j (l : List S41) (st : Int) (b : Bool) (s d : List Int) (hm : l.length < 2513169434900) (hl : 0 < l.length → (hd l).length ≤ 1000) (k : Nat) (hk : 1010 ≤ k) :
    fullerref17_Put.j0 k l st b s d = some (if b = true then (l, 170) else if tchk s d = false then (l, 30)
      else if (decide (0 < l.length) && !decide (hd l = s)) = true then (l, 20) else if l.length = 16 then (l, 171) else (l ++ [⟨st, ⟨s, d⟩⟩], 0)) := by
  obtain ⟨k, rfl⟩ : ∃ m, k = m + 2 := ⟨k - 2, by omega⟩
  rw [fullerref17_Put.j0]
  by_cases hb : b = true
  · rw [if_pos hb, if_pos hb]
  · rw [if_neg hb, if_neg hb, rtcheck_f s d (k + 1) (by omega)]
    simp only [Option.bind_some]
    cases ht : tchk s d with
    | false => simp
    | true =>
      rw [if_pos rfl, if_neg (show ¬ (true = false) by simp)]
      have fin : ∀ x : Bool, fullerref17_Put.j1 (k + 1) l st x s d = some (if x = true then (l, 20) else if l.length = 16 then (l, 171) else (l ++ [⟨st, ⟨s, d⟩⟩], 0)) := by
        intro x
        rw [fullerref17_Put.j1]
        cases x with
        | true => simp
        | false =>
          rw [if_neg (show ¬ (false = true) by simp), if_neg (show ¬ (false = true) by simp)]
          by_cases h16 : l.length = 16
          · rw [if_pos (by omega), if_pos h16]
          · rw [if_neg (by omega), if_neg h16]
            simp only [Option.bind_some, List.length_nil, Nat.zero_add, List.nil_append, List.length_singleton]
            rw [if_pos (by omega), if_pos (by omega)]
      by_cases h0 : (l.length : Int) > 0
      · rw [if_pos h0, if_pos (by omega), rd_head (by omega), same_f _ _ (by have := hl (by omega); omega) (k + 1) (by have := hl (by omega); omega)]
        simp only [Option.bind_some]
        rw [fin, decide_eq_true (show 0 < l.length by omega), Bool.true_and]
      · rw [if_neg h0, fin, decide_eq_false (show ¬ 0 < l.length by omega), Bool.false_and]
theorem rput_f (l : List S41) (st : Int) (s d : List Int) (hm : l.length < 2513169434900) (k : Nat) (hk : l.length + 1010 ≤ k) : fullerref17_Put.f k l st s d = some (pv l st s d) := by
  unfold fullerref17_Put.f pv
  rw [rvchk_f l (by omega) k (by omega)]
  simp only [Option.bind_some]
  cases hv : vchk l with
  | false =>
    obtain ⟨k, rfl⟩ : ∃ m, k = m + 1 := ⟨k - 1, by omega⟩
    rw [if_neg (by simp), fullerref17_Put.j0, if_pos rfl]
    simp
  | true =>
    have hh := hd_len hv
    rw [if_pos rfl, Bool.not_true, Bool.false_or]
    by_cases h0 : st < 0
    · rw [if_pos h0, decide_eq_true h0, Bool.true_or, if_pos rfl]
      obtain ⟨k, rfl⟩ : ∃ m, k = m + 1 := ⟨k - 1, by omega⟩
      rw [fullerref17_Put.j0, if_pos rfl]
    · rw [if_neg h0, decide_eq_false h0, Bool.false_or]
      by_cases hl : (l.length : Int) > 0
      · obtain ⟨hw, hla⟩ := last_rd (l := l) (by omega) (by omega)
        rw [if_pos hl, hw, if_pos (by omega), if_pos (by omega), rdV (by omega), rput_j l st _ s d (by omega) (fun _ => by omega) k (by omega)]
        simp only [late, hla]
      · rw [if_neg hl, rput_j l st _ s d (by omega) (fun _ => by omega) k (by omega)]
        have : l = [] := List.eq_nil_of_length_eq_zero (by omega)
        subst this
        simp [late]
end Go.Proofs.Ytdjlpbekoggmiaa.Plain
