/- Plain facts on shapes: what may be a shape, how many numbers it has, where an index stands, what two are joined to; no conditions. -/
import Derived.RowKit
import Derived.Test.YtalmgghhpgfgoaaAx1
namespace Go.Proofs.Ytalmgghhpgfgoaa.Plain
open Go.RowKit Go.Proofs.Ytalmgghhpgfgoaa.A Go.Proofs.YtalmgghhpgfgoaaW.PrintWords Go.Proofs.YtalmgghhpgfgoaaW.PrintLast Go.Proofs.YtalmgghhpgfgoaaW.PrintMore
set_option linter.unusedVariables false
set_option linter.unusedSimpArgs false
theorem w64 {x : Int} (h : -9223372036854775808 ≤ x) (h' : x ≤ 9223372036854775807) : wrap64 x = x := by
  unfold wrap64
  omega
theorem mulb {a b A B : Int} (ha : 1 ≤ a) (hA : a ≤ A) (hb : 1 ≤ b) (hB : b ≤ B) : 1 ≤ a * b ∧ a * b ≤ A * B := by
  have h1 : 1 * 1 ≤ a * b := Int.mul_le_mul ha hb (by omega) (by omega)
  have h2 : a * b ≤ A * B := Int.mul_le_mul hA hB (by omega) (by omega)
  omega
theorem getD_lt {α : Type} {l : List α} {i : Nat} (d : α) (h : i < l.length) : l.getD i d = l[i] := by simp [List.getD_eq_getElem?_getD, h]
def prod : List Int → Int
  | [] => 1
  | a :: s => a * prod s
def sides (s : List Int) : Bool := s.all fun x => decide (1 ≤ x) && decide (x ≤ 16)
def chk (s : List Int) : Bool := decide (s.length ≤ 3) && sides s && decide (prod s ≤ 64)
def siz (s : List Int) : Int := if chk s = true then prod s else 0
theorem prod_append (s t : List Int) : prod (s ++ t) = prod s * prod t := by
  induction s with
  | nil => simp [prod]
  | cons a s ih => simp [prod, ih, Int.mul_assoc]
theorem prod_reverse (s : List Int) : prod s.reverse = prod s := by
  induction s with
  | nil => rfl
  | cons a s ih => simp [prod_append, prod, ih, Int.mul_comm]
theorem sides_iff {s : List Int} : sides s = true ↔ ∀ x ∈ s, 1 ≤ x ∧ x ≤ 16 := by simp [sides]
theorem prod_pos {s : List Int} (h : ∀ x ∈ s, 1 ≤ x) : 1 ≤ prod s := by
  induction s with
  | nil => simp [prod]
  | cons a s ih =>
    have h1 := h a (by simp)
    have h2 := ih (fun x hx => h x (by simp [hx]))
    have := Int.mul_le_mul h1 h2 (by omega) (by omega)
    simp [prod]; omega
theorem chk_iff {s : List Int} : chk s = true ↔ s.length ≤ 3 ∧ (∀ x ∈ s, 1 ≤ x ∧ x ≤ 16) ∧ prod s ≤ 64 := by
  simp [chk, sides, and_assoc]
def okr : List Int → List Int → Bool
  | [], [] => true
  | c :: r, i :: x => decide (0 ≤ i) && decide (i < c) && okr r x
  | _, _ => false
def oki (s x : List Int) : Bool := okr s.reverse x.reverse
def sd (s : List Int) (i : Nat) : Int := if i < s.length then s.getD (s.length - 1 - i) 0 else 1
def fit2 (x y : Int) : Prop := x = y ∨ x = 1 ∨ y = 1
instance (x y : Int) : Decidable (fit2 x y) := by unfold fit2; infer_instance
def bigger (x y : Int) : Int := if x < y then y else x
def jl (a b : List Int) : List Int := (List.range (max a.length b.length)).map fun j => bigger (sd a (max a.length b.length - 1 - j)) (sd b (max a.length b.length - 1 - j))
def alike (a b : List Int) : Prop := ∀ i, i < max a.length b.length → fit2 (sd a i) (sd b i)
instance (a b : List Int) : Decidable (alike a b) := by unfold alike; infer_instance
def jok (a b : List Int) : Bool := chk a && chk b && decide (alike a b) && chk (jl a b)
def join (a b : List Int) : List Int × Int := if jok a b = true then (jl a b, 0) else ([], 20)
theorem jl_length (a b : List Int) : (jl a b).length = max a.length b.length := by simp [jl]
theorem sd_pos {s : List Int} (h : ∀ x ∈ s, 1 ≤ x ∧ x ≤ 16) (i : Nat) : 1 ≤ sd s i ∧ sd s i ≤ 16 := by
  unfold sd
  split
  · rename_i hi
    have : s.length - 1 - i < s.length := by omega
    rw [getD_lt _ this]
    exact h _ (List.getElem_mem this)
  · omega
theorem jok_iff {a b : List Int} : jok a b = true ↔ chk a = true ∧ chk b = true ∧ alike a b ∧ chk (jl a b) = true := by simp [jok, and_assoc]
theorem chk_sides {s : List Int} (h : chk s = true) : ∀ x ∈ s, 1 ≤ x ∧ x ≤ 16 := (chk_iff.mp h).2.1
theorem chk_len {s : List Int} (h : chk s = true) : s.length ≤ 3 := (chk_iff.mp h).1
end Go.Proofs.Ytalmgghhpgfgoaa.Plain
