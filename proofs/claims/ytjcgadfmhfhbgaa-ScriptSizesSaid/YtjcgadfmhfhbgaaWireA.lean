/- Graphs as bytes, in plain words: what they are written as, what bytes are read as; no conditions. -/
import Derived.Test.YtjcgadfmhfhbgaaGraphA
import Derived.Test.YtjcgadfmhfhbgaaImageA
import Derived.Test.YtjcgadfmhfhbgaaAx4
import Derived.Test.YtjcgadfmhfhbgaaAx6
import Derived.Test.YtjcgadfmhfhbgaaAx8
import Derived.Test.YtjcgadfmhfhbgaaAx15
import Derived.Test.YtjcgadfmhfhbgaaAx12
namespace Go.Proofs.Ytjcgadfmhfhbgaa.Plain
open Go.RowKit Go.Proofs.Ytjcgadfmhfhbgaa.A Go.Proofs.YtjcgadfmhfhbgaaW.PrintWords Go.Proofs.YtjcgadfmhfhbgaaW.PrintLast Go.Proofs.YtjcgadfmhfhbgaaW.PrintMore
set_option linter.unusedVariables false
set_option linter.unusedSimpArgs false
def encN (n : S48) : List Int := n.f0 :: (((n.f1.length : Int) :: pkAll 1 n.f1) ++ ((n.f2.length : Int) :: pkAll 8 n.f2))
def encNs (l : List S48) : List Int := l.flatMap encN
def encG (l : List S48) : List Int := (l.length : Int) :: encNs l
theorem bytes1 {a : Int} (h : 0 ≤ a ∧ a ≤ 255) : pkBytes 1 a = [a] := by simp [pkBytes]; omega
theorem may1 {a : Int} (h : 0 ≤ a ∧ a ≤ 255) : pkMay a 1 = true := by simp [pkMay]; omega
theorem all1_len (l : List Int) : (pkAll 1 l).length = l.length := by rw [all_length]; simp
theorem encN_len (n : S48) : (encN n).length = 3 + n.f1.length + 8 * n.f2.length := by
  simp only [encN, List.length_cons, List.length_append, all_length]
  simp
  omega
theorem encNs_cons (n : S48) (l : List S48) : encNs (n :: l) = encN n ++ encNs l := rfl
theorem encNs_le {l : List S48} (h : ∀ n ∈ l, n.f1.length ≤ 2 ∧ n.f2.length ≤ 4) : (encNs l).length ≤ 37 * l.length := by
  induction l with
  | nil => simp [encNs]
  | cons n l ih =>
    have h1 := h n List.mem_cons_self
    have h2 := ih (fun m hm => h m (List.mem_cons_of_mem _ hm))
    rw [encNs_cons, List.length_append, encN_len, List.length_cons]
    omega
theorem ok_small {l : List S48} (h : GOk l) : ∀ n ∈ l, n.f1.length ≤ 2 ∧ n.f2.length ≤ 4 := fun n hn => by
  obtain ⟨j, _, _, hnw⟩ := h.mem hn
  have := node_len hnw
  omega
theorem encG_le {l : List S48} (h : GOk l) : (encG l).length ≤ 889 := by
  have := encNs_le (ok_small h)
  have := h.le
  simp only [encG, List.length_cons]
  omega
theorem wput_f (x : List Int) (v : Int) (hx : x.length < 140737488355328) (k : Nat) (hk : 3 ≤ k) : wire_put.f k x [v] = some (x ++ [v % 256]) := by
  obtain ⟨k, rfl⟩ : ∃ q, k = q + 2 := ⟨k - 2, by omega⟩
  unfold wire_put.f
  have e : wrap64 (0 + 1) = 1 := by simp [wrap64]
  rw [wire_put.l0, if_pos (by simp), if_pos (by omega), if_pos (by simp), if_pos hx, e, wire_put.l0, if_neg (by simp)]
  rfl
theorem wlist1 {n : S48} (h : n.f1.length ≤ 2 ∧ ∀ a ∈ n.f1, 0 ≤ a ∧ a ≤ 255) (x : List Int) (hx : x.length ≤ 1000000) : pack_List.f x n.f1 1 = some (x ++ ((n.f1.length : Int) :: pkAll 1 n.f1), 0) := by
  have ok : pkListOk n.f1 1 = true := by
    unfold pkListOk
    rw [decide_eq_true (show n.f1.length ≤ 255 by omega), List.all_eq_true.mpr (fun a ha => may1 (h.2 a ha))]
    rfl
  unfold pack_List.f pkList
  rw [if_pos (by omega), if_pos ok]
theorem wlist8 {s : List Int} (h : s.length ≤ 4) (x : List Int) (hx : x.length ≤ 1000000) : pack_List.f x s 8 = some (x ++ ((s.length : Int) :: pkAll 8 s), 0) := by
  have ok : pkListOk s 8 = true := by
    unfold pkListOk
    rw [decide_eq_true (show s.length ≤ 255 by omega), List.all_eq_true.mpr (fun a _ => may8 a)]
    rfl
  unfold pack_List.f pkList
  rw [if_pos (by omega), if_pos ok]
theorem wwrite_l0 (l : List S48) (h : GOk l) (d : Nat) : ∀ (k i : Nat) (x : List Int), l.length - i = d → i ≤ l.length → d + 10 ≤ k → x.length ≤ 1000 + 37 * i →
    wire_Write.l0 k x l (l.length : Int) (i : Int) = some (x ++ encNs (l.drop i), 0) := by
  induction d with
  | zero =>
    intro k i x hd hi hk hx
    obtain ⟨k, rfl⟩ : ∃ q, k = q + 1 := ⟨k - 1, by omega⟩
    rw [wire_Write.l0, if_neg (by omega), List.drop_eq_nil_of_le (by omega)]
    simp [encNs]
  | succ d ih =>
    intro k i x hd hi hk hx
    obtain ⟨k, rfl⟩ : ∃ q, k = q + 1 := ⟨k - 1, by omega⟩
    have hil : i < l.length := by omega
    have h24 := h.le
    have hn := h.node i _ (List.getElem?_eq_getElem hil)
    have hl := node_len hn
    obtain ⟨kd, _, _, _, h4⟩ := nodeW_iff.mp hn
    have ih' := ih k (i + 1) (x ++ encN l[i]) (by omega) (by omega) (by omega) (by rw [List.length_append, encN_len]; omega)
    rw [wire_Write.l0, if_pos (by omega), if_pos (by omega), if_pos (by omega), rdN hil, wput_f x _ (by omega) k (by omega)]
    simp only [Option.bind_some]
    rw [show l[i].f0 % 256 = l[i].f0 by omega, wlist1 ⟨by omega, fun a ha => by have := h4 a ha; omega⟩ _ (by simp; omega)]
    simp only [Option.bind_some]
    rw [wlist8 (by omega) _ (by simp [all1_len]; omega)]
    simp only [Option.bind_some]
    have e : wrap64 ((i : Int) + 1) = ((i + 1 : Nat) : Int) := by unfold wrap64; omega
    have e2 : x ++ [l[i].f0] ++ ((l[i].f1.length : Int) :: pkAll 1 l[i].f1) ++ ((l[i].f2.length : Int) :: pkAll 8 l[i].f2) = x ++ encN l[i] := by
      simp only [encN, List.append_assoc, List.cons_append, List.nil_append]
    rw [e, e2, ih', List.drop_eq_getElem_cons hil, encNs_cons, List.append_assoc]
theorem wwrite_f (l : List S48) (k : Nat) (hk : 100 ≤ k) : wire_Write.f k l = some (if gchk l = true then (encG l, 0) else ([], 100)) := by
  unfold wire_Write.f graph_Check.f
  simp only [Option.bind_some]
  by_cases h : gchk l = true
  · rw [if_pos h, if_pos h, wput_f [] _ (by simp) k (by omega)]
    simp only [Option.bind_some, List.nil_append]
    have hg := gchk_iff.mp h
    have h24 := hg.le
    have := wwrite_l0 l hg l.length k 0 [(l.length : Int) % 256] (by omega) (by omega) (by omega) (by simp)
    rw [show ((0 : Nat) : Int) = 0 from rfl] at this
    rw [this, show (l.length : Int) % 256 = l.length by omega]
    rfl
  · rw [if_neg h, if_neg h]
def fewG (l : List S48) : Bool := (l.all fun n => decide (n.f1.length ≤ 30) && decide (n.f2.length ≤ 30)) && decide (l.length ≤ 30)
theorem few10_l0 (l : List S48) (hl : l.length ≤ 9223372036854775806) (d : Nat) : ∀ (k i : Nat), l.length - i = d → i ≤ l.length → d + 1 ≤ k →
    fullerref10_Few.l0 k l (i : Int) = some (((l.drop i).all fun n => decide (n.f1.length ≤ 30) && decide (n.f2.length ≤ 30)) && decide (l.length ≤ 30)) := by
  induction d with
  | zero =>
    intro k i hd hi hk
    obtain ⟨k, rfl⟩ : ∃ q, k = q + 1 := ⟨k - 1, by omega⟩
    have e : decide ((l.length : Int) ≤ 30) = decide (l.length ≤ 30) := decide_eq_decide.mpr (by omega)
    rw [fullerref10_Few.l0, if_neg (by omega), List.drop_eq_nil_of_le (by omega), e]
    simp
  | succ d ih =>
    intro k i hd hi hk
    obtain ⟨k, rfl⟩ : ∃ q, k = q + 1 := ⟨k - 1, by omega⟩
    have hil : i < l.length := by omega
    have ih' := ih k (i + 1) (by omega) (by omega) (by omega)
    rw [fullerref10_Few.l0, if_pos (by omega), if_pos (by omega), rdN hil, List.drop_eq_getElem_cons hil, List.all_cons]
    by_cases h1 : ((l[i].f1.length : Int)) > 30
    · rw [if_pos h1, decide_eq_false (show ¬ l[i].f1.length ≤ 30 by omega)]
      simp
    · rw [if_neg h1, decide_eq_true (show l[i].f1.length ≤ 30 by omega)]
      by_cases h2 : ((l[i].f2.length : Int)) > 30
      · rw [if_pos h2, decide_eq_false (show ¬ l[i].f2.length ≤ 30 by omega)]
        simp
      · have e : wrap64 ((i : Int) + 1) = ((i + 1 : Nat) : Int) := by unfold wrap64; omega
        rw [if_neg h2, e, ih', decide_eq_true (show l[i].f2.length ≤ 30 by omega)]
        simp
theorem few10_f (l : List S48) (hl : l.length ≤ 9223372036854775806) (k : Nat) (hk : l.length + 1 ≤ k) : fullerref10_Few.f k l = some (fewG l) := by
  unfold fullerref10_Few.f fewG
  have := few10_l0 l hl l.length k 0 (by omega) (by omega) hk
  simpa using this
theorem fewG_iff {l : List S48} (h : fewG l = true) : l.length ≤ 30 ∧ ∀ n ∈ l, n.f1.length ≤ 30 ∧ n.f2.length ≤ 30 := by
  unfold fewG at h
  simp only [Bool.and_eq_true, decide_eq_true_eq, List.all_eq_true] at h
  exact ⟨h.2, h.1⟩
end Go.Proofs.Ytjcgadfmhfhbgaa.Plain
