/- Plain facts on shapes: what may be a shape, how many numbers it has, where an index stands, what two are joined to; no conditions. -/
import Derived.RowKit
namespace Go.Proofs.Ytmolbbebglfhmaa.Plain
open Go.RowKit
theorem w64 {x : Int} (h : -9223372036854775808 ≤ x) (h' : x ≤ 9223372036854775807) : wrap64 x = x := by
  unfold wrap64
  omega
theorem mulb {a b A B : Int} (ha : 1 ≤ a) (hA : a ≤ A) (hb : 1 ≤ b) (hB : b ≤ B) : 1 ≤ a * b ∧ a * b ≤ A * B := by
  have h1 : 1 * 1 ≤ a * b := Int.mul_le_mul ha hb (by omega) (by omega)
  have h2 : a * b ≤ A * B := Int.mul_le_mul hA hB (by omega) (by omega)
  omega
def prod : List Int → Int
  | [] => 1
  | a :: s => a * prod s
def sides (s : List Int) : Bool := s.all fun x => decide (1 ≤ x) && decide (x ≤ 16)
def chk (s : List Int) : Bool := decide (s.length ≤ 3) && sides s && decide (prod s ≤ 64)
def siz (s : List Int) : Int := if chk s = true then prod s else 0
theorem sides_iff {s : List Int} : sides s = true ↔ ∀ x ∈ s, 1 ≤ x ∧ x ≤ 16 := by simp [sides]
theorem chk_iff {s : List Int} : chk s = true ↔ s.length ≤ 3 ∧ (∀ x ∈ s, 1 ≤ x ∧ x ≤ 16) ∧ prod s ≤ 64 := by
  simp [chk, sides, and_assoc]
def okr : List Int → List Int → Bool
  | [], [] => true
  | c :: r, i :: x => decide (0 ≤ i) && decide (i < c) && okr r x
  | _, _ => false
def oki (s x : List Int) : Bool := okr s.reverse x.reverse
def sd (s : List Int) (i : Nat) : Int := if i < s.length then s.getD (s.length - 1 - i) 0 else 1
def fit2 (x y : Int) : Prop := x = y ∨ x = 1 ∨ y = 1
instance (x y : Int) : Decidable (fit2 x y) := by unfold fit2; infer_instance
def alike (a b : List Int) : Prop := ∀ i, i < max a.length b.length → fit2 (sd a i) (sd b i)
instance (a b : List Int) : Decidable (alike a b) := by unfold alike; infer_instance
end Go.Proofs.Ytmolbbebglfhmaa.Plain
