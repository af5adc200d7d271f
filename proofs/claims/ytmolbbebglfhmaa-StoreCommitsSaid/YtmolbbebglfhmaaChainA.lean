/- What the functions of layer 17 answer, in plain words; no conditions. -/
import Derived.Test.YtmolbbebglfhmaaBase
import Derived.Test.YtmolbbebglfhmaaAx1
import Derived.Test.YtmolbbebglfhmaaAx2
import Derived.Test.YtmolbbebglfhmaaAx3
import Derived.Test.YtmolbbebglfhmaaAx7
import Derived.Test.YtmolbbebglfhmaaAx5
import Derived.Test.YtmolbbebglfhmaaAx8
namespace Go.Proofs.Ytmolbbebglfhmaa.Plain
open Go.RowKit Go.Proofs.Ytmolbbebglfhmaa.A Go.Proofs.YtmolbbebglfhmaaW.PrintWords Go.Proofs.YtmolbbebglfhmaaW.PrintLast Go.Proofs.YtmolbbebglfhmaaW.PrintMore
set_option linter.unusedVariables false
set_option linter.unusedSimpArgs false
def tchk (s d : List Int) : Bool := chk s && decide ((d.length : Int) = siz s)
theorem tcheck_f (s d : List Int) (k : Nat) (hk : 5 ≤ k) : tensor_Check.f k s d = some (tchk s d) := by
  unfold tensor_Check.f tchk
  rw [check_f s k hk]
  simp only [Option.bind_some]
  cases h : chk s with
  | false => simp
  | true =>
    rw [if_pos rfl, size_f s k hk]
    simp only [Option.bind_some, Bool.true_and]
    by_cases h : (d.length : Int) = siz s <;> simp [h]
theorem tchk_len {s d : List Int} (h : tchk s d = true) : s.length ≤ 3 ∧ d.length ≤ 64 := by
  simp only [tchk, Bool.and_eq_true, decide_eq_true_eq] at h
  have := siz_le s
  exact ⟨(chk_iff.mp h.1).1, by omega⟩
theorem rdV {l : List S74} {i : Nat} (h : i < l.length) : rd_T74 l (i : Int) = l[i] := by simp [rd_T74, List.getD_eq_getElem?_getD, h]
theorem dropV {α : Type} {l : List α} {i : Nat} (h : i < l.length) : l.drop i = l[i] :: l.drop (i + 1) := List.drop_eq_getElem_cons h
def asc : Int → List S74 → Bool
  | _, [] => true
  | p, v :: r => decide (p < v.f0) && asc v.f0 r
def good (h : List Int) (v : S74) : Bool := tchk v.f1.f0 v.f1.f1 && decide (v.f1.f0 = h)
def hd (l : List S74) : List Int := match l with
  | [] => []
  | v :: _ => v.f1.f0
def vchk (l : List S74) : Bool := decide (l.length ≤ 16) && (asc (-1) l && l.all (good (hd l)))
theorem rd_head {l : List S74} (h : 0 < l.length) : (rd_T74 l 0).f1.f0 = hd l := by
  cases l with
  | nil => simp at h
  | cons v r => rfl
theorem chain_l0 (l : List S74) (hm : l.length ≤ 9223372036854775806) (d : Nat) : ∀ (k i : Nat) (b : Bool) (p : Int), l.length - i = d → i ≤ l.length → d + 10 ≤ k →
    chain_Check.l0 k l b p l (l.length : Int) (i : Int) = some (b && (asc p (l.drop i) && (l.drop i).all (good (hd l)))) := by
  induction d with
  | zero =>
    intro k i b p hd hi hk
    obtain ⟨k, rfl⟩ : ∃ m, k = m + 1 := ⟨k - 1, by omega⟩
    simp only [chain_Check.l0]
    rw [if_neg (by omega), List.drop_eq_nil_of_le (by omega)]
    simp [asc]
  | succ d ih =>
    intro k i b p hdd hi hk
    obtain ⟨k, rfl⟩ : ∃ m, k = m + 1 := ⟨k - 1, by omega⟩
    have hlt : i < l.length := by omega
    simp only [chain_Check.l0]
    rw [if_pos (by omega), if_pos (by omega), if_pos (by omega), rdV hlt, dropV hlt]
    cases b with
    | false => simp
    | true =>
      rw [if_pos rfl]
      simp only [asc, List.all_cons, Bool.true_and]
      by_cases hp : l[i].f0 > p
      · rw [if_pos hp, decide_eq_true (show p < l[i].f0 from hp), tcheck_f _ _ k (by omega)]
        simp only [Option.bind_some, Bool.true_and]
        cases ht : tchk l[i].f1.f0 l[i].f1.f1 with
        | false => simp [good, ht]
        | true =>
          have hl := tchk_len ht
          rw [if_pos rfl, if_pos (by omega), rd_head (by omega), equal_f _ _ (by omega) k (by omega)]
          simp only [Option.bind_some]
          by_cases he : l[i].f1.f0 = hd l
          · have hg : good (hd l) l[i] = true := by simp only [good, ht, Bool.true_and]; exact decide_eq_true he
            simp only [he, decide_true, if_true, hg, Bool.true_and]
            have hw : wrap64 ((i : Int) + 1) = ((i + 1 : Nat) : Int) := by rw [w64 (by omega) (by omega)]; omega
            rw [hw, ih k (i + 1) true l[i].f0 (by omega) (by omega) (by omega)]
            simp
          · simp [he, good]
      · rw [if_neg hp, decide_eq_false (show ¬ p < l[i].f0 from hp)]
        simp
theorem vchk_f (l : List S74) (hm : l.length ≤ 9223372036854775806) (k : Nat) (hk : l.length + 10 ≤ k) : chain_Check.f k l = some (vchk l) := by
  unfold chain_Check.f vchk
  have := chain_l0 l hm l.length k 0 (decide ((l.length : Int) ≤ 16)) (-1) (by omega) (by omega) (by omega)
  simp only [Int.natCast_zero, List.drop_zero] at this
  rw [this]
  congr 2
  exact decide_eq_decide.mpr (by omega)
theorem vchk_iff {l : List S74} : vchk l = true ↔ l.length ≤ 16 ∧ asc (-1) l = true ∧ ∀ v ∈ l, good (hd l) v = true := by
  simp [vchk]
def bh (l : List S74) (a : Int) : Nat := (l.takeWhile fun v => decide (v.f0 ≤ a)).length
theorem bh_le (l : List S74) (a : Int) : bh l a ≤ l.length := (List.takeWhile_sublist _).length_le
theorem bh_f (l : List S74) (a : Int) : chain_behind.f l a = some ((bh l a : Nat) : Int) := rfl
theorem bh_cons (v : S74) (r : List S74) (a : Int) : bh (v :: r) a = if v.f0 ≤ a then bh r a + 1 else 0 := by
  unfold bh
  by_cases h : v.f0 ≤ a <;> simp [h]
def rdv (l : List S74) (a : Int) : List Int × List Int × Bool :=
  if vchk l = true then (match (l.take (bh l a)).getLast? with | some v => (v.f1.f0, v.f1.f1, true) | none => ([], [], false)) else ([], [], false)
theorem take_last {α : Type} {l : List α} {n : Nat} (h0 : 0 < n) (h : n ≤ l.length) : (l.take n).getLast? = some (l[n - 1]'(by omega)) := by
  rw [List.getLast?_eq_getElem?]
  simp only [List.length_take, Nat.min_eq_left h]
  rw [List.getElem?_take, if_pos (by omega), List.getElem?_eq_getElem (by omega)]
theorem rdv_ok {l : List S74} {a : Int} (h : vchk l = true) (h0 : 0 < bh l a) : rdv l a = ((l[bh l a - 1]'(by have := bh_le l a; omega)).f1.f0, (l[bh l a - 1]'(by have := bh_le l a; omega)).f1.f1, true) := by
  unfold rdv
  rw [if_pos h, take_last h0 (bh_le l a)]
theorem rdv_none {l : List S74} {a : Int} (h0 : bh l a = 0) : rdv l a = ([], [], false) := by
  unfold rdv
  rw [h0]
  simp
theorem vchk_elem {l : List S74} (h : vchk l = true) {v : S74} (hv : v ∈ l) : v.f1.f0.length ≤ 3 ∧ v.f1.f1.length ≤ 64 := by
  have := (vchk_iff.mp h).2.2 v hv
  simp only [good, Bool.and_eq_true] at this
  exact tchk_len this.1
theorem copied_f {s d : List Int} (hs : s.length ≤ 1000) (hd : d.length ≤ 1000) : chain_copied.f s d = some (s, d) := by
  unfold chain_copied.f slices_Clone_int_int.f
  rw [if_pos (by omega), if_pos (by omega)]
  rfl
theorem read_f (l : List S74) (a : Int) (hm : l.length ≤ 9223372036854775806) (k : Nat) (hk : l.length + 10 ≤ k) : chain_Read.f k l a = some (rdv l a) := by
  unfold chain_Read.f
  rw [bh_f]
  simp only [Option.bind_some]
  have hb := bh_le l a
  by_cases h0 : bh l a = 0
  · rw [if_pos (by omega), rdv_none h0]
  · rw [if_neg (by omega), vchk_f l hm k hk]
    simp only [Option.bind_some]
    cases hv : vchk l with
    | false => simp [rdv, hv]
    | true =>
      have hw : wrap64 ((bh l a : Int) - 1) = ((bh l a - 1 : Nat) : Int) := by rw [w64 (by omega) (by omega)]; omega
      have he := vchk_elem hv (List.getElem_mem (show bh l a - 1 < l.length by omega))
      rw [if_pos rfl, hw, if_pos (by omega), if_pos (by omega), rdV (by omega), copied_f (by omega) (by omega), rdv_ok hv (by omega)]
      rfl
def nw (l : List S74) (a : Int) : Bool := vchk l && decide (bh l a < l.length)
theorem newer_f (l : List S74) (a : Int) (hm : l.length ≤ 9223372036854775806) (k : Nat) (hk : l.length + 10 ≤ k) : chain_Newer.f k l a = some (nw l a) := by
  unfold chain_Newer.f nw
  rw [vchk_f l hm k hk]
  simp only [Option.bind_some]
  cases hv : vchk l with
  | false => simp
  | true =>
    rw [if_pos rfl, bh_f]
    simp only [Option.bind_some, Bool.true_and]
    congr 1
    exact decide_eq_decide.mpr (by omega)
theorem asc_mono : ∀ {l : List S74} {p : Int}, asc p l = true → ∀ v ∈ l, p < v.f0
  | w :: r, p, h, v, hv => by
    simp only [asc, Bool.and_eq_true, decide_eq_true_eq] at h
    rcases List.mem_cons.1 hv with rfl | hv
    · exact h.1
    · have := asc_mono h.2 v hv
      omega
theorem last_rd {l : List S74} (h : 0 < l.length) (hm : l.length ≤ 9223372036854775806) : wrap64 ((l.length : Int) - 1) = ((l.length - 1 : Nat) : Int) ∧ l.getLast? = some (l[l.length - 1]'(by omega)) := by
  refine ⟨by rw [w64 (by omega) (by omega)]; omega, ?_⟩
  rw [List.getLast?_eq_getElem?, List.getElem?_eq_getElem (by omega)]
def late (l : List S74) (st : Int) : Bool := match l.getLast? with
  | some v => decide (st ≤ v.f0)
  | none => false
def pv (l : List S74) (st : Int) (s d : List Int) : List S74 × Int :=
  if (decide (st < 0) || (!vchk l || late l st)) = true then (l, 170)
  else if tchk s d = false then (l, 30)
  else if (decide (0 < l.length) && !decide (hd l = s)) = true then (l, 20)
  else if l.length = 16 then (l, 171)
  else (l ++ [⟨st, ⟨s, d⟩⟩], 0)
theorem put_j (l : List S74) (st : Int) (b : Bool) (s d : List Int) (hm : l.length < 2513169434900) (hl : 0 < l.length → (hd l).length ≤ 1000) (k : Nat) (hk : 1010 ≤ k) :
    chain_Put.j0 k l st (l.length : Int) b s d = some (if b = true then (l, 170) else if tchk s d = false then (l, 30)
      else if (decide (0 < l.length) && !decide (hd l = s)) = true then (l, 20) else if l.length = 16 then (l, 171) else (l ++ [⟨st, ⟨s, d⟩⟩], 0)) := by
  obtain ⟨k, rfl⟩ : ∃ m, k = m + 2 := ⟨k - 2, by omega⟩
  rw [chain_Put.j0]
  by_cases hb : b = true
  · rw [if_pos hb, if_pos hb]
  · rw [if_neg hb, if_neg hb, tcheck_f s d (k + 1) (by omega)]
    simp only [Option.bind_some]
    cases ht : tchk s d with
    | false => simp
    | true =>
      have hlen := tchk_len ht
      rw [if_pos rfl, if_neg (show ¬ (true = false) by simp)]
      have fin : ∀ x : Bool, chain_Put.j1 (k + 1) l st (l.length : Int) x s d = some (if x = true then (l, 20) else if l.length = 16 then (l, 171) else (l ++ [⟨st, ⟨s, d⟩⟩], 0)) := by
        intro x
        rw [chain_Put.j1]
        cases x with
        | true => simp
        | false =>
          rw [if_neg (show ¬ (false = true) by simp), if_neg (show ¬ (false = true) by simp)]
          by_cases h16 : l.length = 16
          · rw [if_pos (by omega), if_pos h16]
          · rw [if_neg (by omega), if_neg h16, copied_f (by omega) (by omega)]
            simp only [api_Version_49.f, Option.bind_some, List.length_nil, Nat.zero_add, List.nil_append]
            rw [if_pos (by omega)]
            simp only [Option.bind_some]
            rw [if_pos (by omega)]
      by_cases h0 : (l.length : Int) > 0
      · rw [if_pos h0, if_pos (by omega), rd_head (by omega), equal_f _ _ (by have := hl (by omega); omega) (k + 1) (by have := hl (by omega); omega)]
        simp only [Option.bind_some]
        rw [fin, decide_eq_true (show 0 < l.length by omega), Bool.true_and]
      · rw [if_neg h0, fin, decide_eq_false (show ¬ 0 < l.length by omega), Bool.false_and]
theorem hd_len {l : List S74} (h : vchk l = true) : (hd l).length ≤ 3 := by
  cases l with
  | nil => simp [hd]
  | cons v r => exact (vchk_elem h (List.mem_cons_self)).1
theorem put_f (l : List S74) (st : Int) (s d : List Int) (hm : l.length < 2513169434900) (k : Nat) (hk : l.length + 1010 ≤ k) : chain_Put.f k l st s d = some (pv l st s d) := by
  unfold chain_Put.f pv
  by_cases h0 : st < 0
  · rw [if_pos h0, decide_eq_true h0, Bool.true_or, if_pos rfl]
    obtain ⟨k, rfl⟩ : ∃ m, k = m + 1 := ⟨k - 1, by omega⟩
    rw [chain_Put.j0, if_pos rfl]
  · rw [if_neg h0, decide_eq_false h0, Bool.false_or, vchk_f l (by omega) k (by omega)]
    simp only [Option.bind_some]
    cases hv : vchk l with
    | false =>
      obtain ⟨k, rfl⟩ : ∃ m, k = m + 1 := ⟨k - 1, by omega⟩
      rw [if_neg (by simp), chain_Put.j0, if_pos rfl]
      rfl
    | true =>
      have hh := hd_len hv
      rw [if_pos rfl, Bool.not_true, Bool.false_or]
      by_cases hl : (l.length : Int) > 0
      · obtain ⟨hw, hla⟩ := last_rd (l := l) (by omega) (by omega)
        rw [if_pos hl, hw, if_pos (by omega), if_pos (by omega), rdV (by omega), put_j l st _ s d (by omega) (fun _ => by omega) k (by omega)]
        simp only [late, hla]
      · rw [if_neg hl, put_j l st _ s d (by omega) (fun _ => by omega) k (by omega)]
        have : l = [] := List.eq_nil_of_length_eq_zero (by omega)
        subst this
        simp [late]
end Go.Proofs.Ytmolbbebglfhmaa.Plain
