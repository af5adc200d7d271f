/- What the functions of layer 17 answer, in plain words; no conditions. -/
import Derived.Test.YtmolbbebglfhmaaBase
import Derived.Test.YtmolbbebglfhmaaAx1
import Derived.Test.YtmolbbebglfhmaaAx2
import Derived.Test.YtmolbbebglfhmaaAx3
import Derived.Test.YtmolbbebglfhmaaAx7
import Derived.Test.YtmolbbebglfhmaaAx5
import Derived.Test.YtmolbbebglfhmaaAx8
namespace Go.Proofs.Ytmolbbebglfhmaa.Plain
open Go.RowKit Go.Proofs.Ytmolbbebglfhmaa.A Go.Proofs.YtmolbbebglfhmaaW.PrintWords Go.Proofs.YtmolbbebglfhmaaW.PrintLast Go.Proofs.YtmolbbebglfhmaaW.PrintMore
set_option linter.unusedVariables false
set_option linter.unusedSimpArgs false
def tchk (s d : List Int) : Bool := chk s && decide ((d.length : Int) = siz s)
theorem tcheck_f (s d : List Int) (k : Nat) (hk : 5 ≤ k) : tensor_Check.f k s d = some (tchk s d) := by
  unfold tensor_Check.f tchk
  rw [check_f s k hk]
  simp only [Option.bind_some]
  cases h : chk s with
  | false => simp
  | true =>
    rw [if_pos rfl, size_f s k hk]
    simp only [Option.bind_some, Bool.true_and]
    by_cases h : (d.length : Int) = siz s <;> simp [h]
theorem tchk_len {s d : List Int} (h : tchk s d = true) : s.length ≤ 3 ∧ d.length ≤ 64 := by
  simp only [tchk, Bool.and_eq_true, decide_eq_true_eq] at h
  have := siz_le s
  exact ⟨(chk_iff.mp h.1).1, by omega⟩
theorem rdV {l : List S74} {i : Nat} (h : i < l.length) : rd_T74 l (i : Int) = l[i] := by simp [rd_T74, List.getD_eq_getElem?_getD, h]
theorem dropV {α : Type} {l : List α} {i : Nat} (h : i < l.length) : l.drop i = l[i] :: l.drop (i + 1) := List.drop_eq_getElem_cons h
def asc : Int → List S74 → Bool
  | _, [] => true
  | p, v :: r => decide (p < v.f0) && asc v.f0 r
def good (h : List Int) (v : S74) : Bool := tchk v.f1.f0 v.f1.f1 && decide (v.f1.f0 = h)
def hd (l : List S74) : List Int := match l with
  | [] => []
  | v :: _ => v.f1.f0
def vchk (l : List S74) : Bool := decide (l.length ≤ 16) && (asc (-1) l && l.all (good (hd l)))
theorem rd_head {l : List S74} (h : 0 < l.length) : (rd_T74 l 0).f1.f0 = hd l := by
  cases l with
  | nil => simp at h
  | cons v r => rfl
theorem chain_l0 (l : List S74) (hm : l.length ≤ 9223372036854775806) (d : Nat) : ∀ (k i : Nat) (b : Bool) (p : Int), l.length - i = d → i ≤ l.length → d + 10 ≤ k →
    chain_Check.l0 k l b p l (l.length : Int) (i : Int) = some (b && (asc p (l.drop i) && (l.drop i).all (good (hd l)))) := by
  induction d with
  | zero =>
    intro k i b p hd hi hk
    obtain ⟨k, rfl⟩ : ∃ m, k = m + 1 := ⟨k - 1, by omega⟩
    simp only [chain_Check.l0]
    rw [if_neg (by omega), List.drop_eq_nil_of_le (by omega)]
    simp [asc]
  | succ d ih =>
    intro k i b p hdd hi hk
    obtain ⟨k, rfl⟩ : ∃ m, k = m + 1 := ⟨k - 1, by omega⟩
    have hlt : i < l.length := by omega
    simp only [chain_Check.l0]
    rw [if_pos (by omega), if_pos (by omega), if_pos (by omega), rdV hlt, dropV hlt]
    cases b with
    | false => simp
    | true =>
      rw [if_pos rfl]
      simp only [asc, List.all_cons, Bool.true_and]
      by_cases hp : l[i].f0 > p
      · rw [if_pos hp, decide_eq_true (show p < l[i].f0 from hp), tcheck_f _ _ k (by omega)]
        simp only [Option.bind_some, Bool.true_and]
        cases ht : tchk l[i].f1.f0 l[i].f1.f1 with
        | false => simp [good, ht]
        | true =>
          have hl := tchk_len ht
          rw [if_pos rfl, if_pos (by omega), rd_head (by omega), equal_f _ _ (by omega) k (by omega)]
          simp only [Option.bind_some]
          by_cases he : l[i].f1.f0 = hd l
          · have hg : good (hd l) l[i] = true := by simp only [good, ht, Bool.true_and]; exact decide_eq_true he
            simp only [he, decide_true, if_true, hg, Bool.true_and]
            have hw : wrap64 ((i : Int) + 1) = ((i + 1 : Nat) : Int) := by rw [w64 (by omega) (by omega)]; omega
            rw [hw, ih k (i + 1) true l[i].f0 (by omega) (by omega) (by omega)]
            simp
          · simp [he, good]
      · rw [if_neg hp, decide_eq_false (show ¬ p < l[i].f0 from hp)]
        simp
theorem vchk_f (l : List S74) (hm : l.length ≤ 9223372036854775806) (k : Nat) (hk : l.length + 10 ≤ k) : chain_Check.f k l = some (vchk l) := by
  unfold chain_Check.f vchk
  have := chain_l0 l hm l.length k 0 (decide ((l.length : Int) ≤ 16)) (-1) (by omega) (by omega) (by omega)
  simp only [Int.natCast_zero, List.drop_zero] at this
  rw [this]
  congr 2
  exact decide_eq_decide.mpr (by omega)
theorem vchk_iff {l : List S74} : vchk l = true ↔ l.length ≤ 16 ∧ asc (-1) l = true ∧ ∀ v ∈ l, good (hd l) v = true := by
  simp [vchk]
def bh (l : List S74) (a : Int) : Nat := (l.takeWhile fun v => decide (v.f0 ≤ a)).length
theorem bh_le (l : List S74) (a : Int) : bh l a ≤ l.length := (List.takeWhile_sublist _).length_le
theorem bh_f (l : List S74) (a : Int) : chain_behind.f l a = some ((bh l a : Nat) : Int) := rfl
theorem bh_cons (v : S74) (r : List S74) (a : Int) : bh (v :: r) a = if v.f0 ≤ a then bh r a + 1 else 0 := by
  unfold bh
  by_cases h : v.f0 ≤ a <;> simp [h]
theorem vchk_elem {l : List S74} (h : vchk l = true) {v : S74} (hv : v ∈ l) : v.f1.f0.length ≤ 3 ∧ v.f1.f1.length ≤ 64 := by
  have := (vchk_iff.mp h).2.2 v hv
  simp only [good, Bool.and_eq_true] at this
  exact tchk_len this.1
def nw (l : List S74) (a : Int) : Bool := vchk l && decide (bh l a < l.length)
theorem newer_f (l : List S74) (a : Int) (hm : l.length ≤ 9223372036854775806) (k : Nat) (hk : l.length + 10 ≤ k) : chain_Newer.f k l a = some (nw l a) := by
  unfold chain_Newer.f nw
  rw [vchk_f l hm k hk]
  simp only [Option.bind_some]
  cases hv : vchk l with
  | false => simp
  | true =>
    rw [if_pos rfl, bh_f]
    simp only [Option.bind_some, Bool.true_and]
    congr 1
    exact decide_eq_decide.mpr (by omega)
theorem asc_mono : ∀ {l : List S74} {p : Int}, asc p l = true → ∀ v ∈ l, p < v.f0
  | w :: r, p, h, v, hv => by
    simp only [asc, Bool.and_eq_true, decide_eq_true_eq] at h
    rcases List.mem_cons.1 hv with rfl | hv
    · exact h.1
    · have := asc_mono h.2 v hv
      omega
end Go.Proofs.Ytmolbbebglfhmaa.Plain
