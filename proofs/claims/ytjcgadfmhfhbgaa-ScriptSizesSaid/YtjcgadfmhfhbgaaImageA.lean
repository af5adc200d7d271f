/- Tensors as bytes, in plain words; no conditions. -/
import Derived.Test.YtjcgadfmhfhbgaaPackA
import Derived.Test.YtjcgadfmhfhbgaaAx6
import Derived.Test.YtjcgadfmhfhbgaaAx9
namespace Go.Proofs.Ytjcgadfmhfhbgaa.Plain
open Go.RowKit Go.Proofs.Ytjcgadfmhfhbgaa.A Go.Proofs.YtjcgadfmhfhbgaaW.PrintWords Go.Proofs.YtjcgadfmhfhbgaaW.PrintLast Go.Proofs.YtjcgadfmhfhbgaaW.PrintMore
set_option linter.unusedVariables false
set_option linter.unusedSimpArgs false
theorem dropT {α : Type} {l : List α} {i : Nat} (h : i < l.length) : l.drop i = l[i] :: l.drop (i + 1) := List.drop_eq_getElem_cons h
def encT (s d : List Int) : List Int := (s.length : Int) :: (pkAll 1 s ++ pkAll 8 d)
def iput (b s d : List Int) : List Int × Int := if tchk s d = true then (b ++ encT s d, 0) else ([], 30)
theorem all_length (size : Int) : ∀ l : List Int, (pkAll size l).length = size.toNat * l.length
  | [] => by simp [pkAll]
  | n :: l => by simp only [pkAll, List.length_append, pkBytes_length, all_length size l, List.length_cons, Nat.mul_add, Nat.mul_one]; omega
theorem all_append (size : Int) : ∀ l m : List Int, pkAll size (l ++ m) = pkAll size l ++ pkAll size m
  | [], m => rfl
  | n :: l, m => by simp only [List.cons_append, pkAll, all_append size l m, List.append_assoc]
theorem encT_length (s d : List Int) : (encT s d).length = 1 + s.length + 8 * d.length := by
  simp only [encT, List.length_cons, List.length_append, all_length]
  have e1 : (1 : Int).toNat = 1 := rfl
  have e8 : (8 : Int).toNat = 8 := rfl
  rw [e1, e8]
  omega
theorem side_may {s : List Int} (h : ∀ x ∈ s, 1 ≤ x ∧ x ≤ 16) : ∀ n ∈ s, pkMay n 1 = true := fun n hn => by
  have := h n hn
  simp [pkMay]
  omega
theorem list_ok {s : List Int} (h : chk s = true) : pkListOk s 1 = true := by
  obtain ⟨h1, h2, _⟩ := chk_iff.mp h
  simp only [pkListOk, Bool.and_eq_true, decide_eq_true_eq, List.all_eq_true]
  exact ⟨⟨rfl, by omega⟩, side_may h2⟩
theorem put8 (b : List Int) (n : Int) (h : b.length + 8 < 140737488355328) : pack_Put.f b n 8 = some (b ++ pkBytes 8 n, 0) := by
  unfold pack_Put.f
  rw [if_pos h]
  have : pkMay n 8 = true := by simp [pkMay]
  simp [pkPut, this]
theorem iput_l0 (d : List Int) (e : Nat) : ∀ (k i : Nat) (x : List Int), d.length - i = e → i ≤ d.length → e + 1 ≤ k → d.length ≤ 1000000 → x.length + 8 * d.length + 100 < 140737488355328 + 8 * i →
    image_Put.l0 k x d (d.length : Int) (i : Int) = some (x ++ pkAll 8 (d.drop i), 0) := by
  induction e with
  | zero =>
    intro k i x hd hi hk hdl hx
    obtain ⟨k, rfl⟩ : ∃ q, k = q + 1 := ⟨k - 1, by omega⟩
    rw [image_Put.l0, if_neg (by omega), List.drop_eq_nil_of_le (by omega), pkAll, List.append_nil]
  | succ e ih =>
    intro k i x hd hi hk hdl hx
    obtain ⟨k, rfl⟩ : ∃ q, k = q + 1 := ⟨k - 1, by omega⟩
    have hlt : i < d.length := by omega
    have hw : wrap64 ((i : Int) + 1) = ((i + 1 : Nat) : Int) := by rw [w64 (by omega) (by omega)]; omega
    rw [image_Put.l0, if_pos (by omega), if_pos (by omega), if_pos (by omega), rd_lt hlt, put8 _ _ (by omega)]
    simp only [Option.bind_some]
    rw [hw, ih k (i + 1) _ (by omega) (by omega) (by omega) hdl (by simp only [List.length_append, pkBytes_length]; omega), dropT hlt, pkAll, List.append_assoc]
    rfl
theorem iput_f (b s d : List Int) (hb : b.length ≤ 1000000000000) (k : Nat) (hk : 100 ≤ k) : image_Put.f k b s d = some (iput b s d) := by
  unfold image_Put.f iput
  rw [tcheck_f s d k (by omega)]
  simp only [Option.bind_some]
  cases ht : tchk s d with
  | false => simp
  | true =>
    have hl := tchk_len ht
    have hc : chk s = true := by simp only [tchk, Bool.and_eq_true] at ht; exact ht.1
    rw [if_pos rfl, if_pos rfl]
    have h1 : pack_List.f b s 1 = some (b ++ ((s.length : Int) :: pkAll 1 s), 0) := by
      unfold pack_List.f pkList
      rw [if_pos (by omega), if_pos (list_ok hc)]
    rw [h1]
    simp only [Option.bind_some]
    have h2 := iput_l0 d d.length k 0 (b ++ ((s.length : Int) :: pkAll 1 s)) (by omega) (by omega) (by omega) (by omega) (by simp only [List.length_append, List.length_cons, all_length]; rw [show (1 : Int).toNat = 1 from rfl]; omega)
    simp only [Int.natCast_zero, List.drop_zero] at h2
    rw [h2]
    simp [encT]
theorem may8 (n : Int) : pkMay n 8 = true := by simp [pkMay]
theorem encT_le {s d : List Int} (h : tchk s d = true) : (encT s d).length ≤ 1000 := by
  have := tchk_len h
  rw [encT_length]
  omega
end Go.Proofs.Ytjcgadfmhfhbgaa.Plain
