/- Plain facts on shapes: what may be a shape, how many numbers it has, where an index stands, what two are joined to; no conditions. -/
import Derived.RowKit
namespace Go.Proofs.Ytjcgadfmhfhbgaa.Plain
open Go.RowKit
theorem w64 {x : Int} (h : -9223372036854775808 ≤ x) (h' : x ≤ 9223372036854775807) : wrap64 x = x := by
  unfold wrap64
  omega
theorem mulb {a b A B : Int} (ha : 1 ≤ a) (hA : a ≤ A) (hb : 1 ≤ b) (hB : b ≤ B) : 1 ≤ a * b ∧ a * b ≤ A * B := by
  have h1 : 1 * 1 ≤ a * b := Int.mul_le_mul ha hb (by omega) (by omega)
  have h2 : a * b ≤ A * B := Int.mul_le_mul hA hB (by omega) (by omega)
  omega
theorem getD_lt {α : Type} {l : List α} {i : Nat} (d : α) (h : i < l.length) : l.getD i d = l[i] := by simp [List.getD_eq_getElem?_getD, h]
def prod : List Int → Int
  | [] => 1
  | a :: s => a * prod s
def sides (s : List Int) : Bool := s.all fun x => decide (1 ≤ x) && decide (x ≤ 16)
def chk (s : List Int) : Bool := decide (s.length ≤ 3) && sides s && decide (prod s ≤ 64)
def siz (s : List Int) : Int := if chk s = true then prod s else 0
theorem sides_iff {s : List Int} : sides s = true ↔ ∀ x ∈ s, 1 ≤ x ∧ x ≤ 16 := by simp [sides]
theorem chk_iff {s : List Int} : chk s = true ↔ s.length ≤ 3 ∧ (∀ x ∈ s, 1 ≤ x ∧ x ≤ 16) ∧ prod s ≤ 64 := by
  simp [chk, sides, and_assoc]
def okr : List Int → List Int → Bool
  | [], [] => true
  | c :: r, i :: x => decide (0 ≤ i) && decide (i < c) && okr r x
  | _, _ => false
def oki (s x : List Int) : Bool := okr s.reverse x.reverse
def sd (s : List Int) (i : Nat) : Int := if i < s.length then s.getD (s.length - 1 - i) 0 else 1
def fit2 (x y : Int) : Prop := x = y ∨ x = 1 ∨ y = 1
instance (x y : Int) : Decidable (fit2 x y) := by unfold fit2; infer_instance
def bigger (x y : Int) : Int := if x < y then y else x
def jl (a b : List Int) : List Int := (List.range (max a.length b.length)).map fun j => bigger (sd a (max a.length b.length - 1 - j)) (sd b (max a.length b.length - 1 - j))
def alike (a b : List Int) : Prop := ∀ i, i < max a.length b.length → fit2 (sd a i) (sd b i)
instance (a b : List Int) : Decidable (alike a b) := by unfold alike; infer_instance
def jok (a b : List Int) : Bool := chk a && chk b && decide (alike a b) && chk (jl a b)
theorem jl_length (a b : List Int) : (jl a b).length = max a.length b.length := by simp [jl]
theorem sd_jl (a b : List Int) (i : Nat) : sd (jl a b) i = bigger (sd a i) (sd b i) := by
  unfold sd
  rw [jl_length]
  by_cases h : i < max a.length b.length
  · rw [if_pos h]
    have h1 : max a.length b.length - 1 - i < (jl a b).length := by rw [jl_length]; omega
    rw [getD_lt _ h1]
    have e : max a.length b.length - 1 - (max a.length b.length - 1 - i) = i := by omega
    simp [jl, e, sd]
  · rw [if_neg h, if_neg (by omega), if_neg (by omega)]; simp [bigger]
theorem eq_of_sd {a b : List Int} (h : a.length = b.length) (hs : ∀ i, i < a.length → sd a i = sd b i) : a = b := by
  apply List.ext_getElem h
  intro i h1 h2
  have := hs (a.length - 1 - i) (by omega)
  unfold sd at this
  rw [if_pos (by omega), if_pos (by omega)] at this
  have e1 : a.length - 1 - (a.length - 1 - i) = i := by omega
  have e2 : b.length - 1 - (a.length - 1 - i) = i := by omega
  rw [e1, e2, getD_lt _ h1, getD_lt _ h2] at this
  exact this
theorem sd_pos {s : List Int} (h : ∀ x ∈ s, 1 ≤ x ∧ x ≤ 16) (i : Nat) : 1 ≤ sd s i ∧ sd s i ≤ 16 := by
  unfold sd
  split
  · rename_i hi
    have : s.length - 1 - i < s.length := by omega
    rw [getD_lt _ this]
    exact h _ (List.getElem_mem this)
  · omega
theorem sd_out {s : List Int} {i : Nat} (h : s.length ≤ i) : sd s i = 1 := by unfold sd; rw [if_neg (by omega)]
theorem alike_all {a b : List Int} (h : alike a b) (i : Nat) : fit2 (sd a i) (sd b i) := by
  by_cases hi : i < max a.length b.length
  · exact h i hi
  · left; rw [sd_out (by omega), sd_out (by omega)]
theorem bigger_assoc (x y z : Int) : bigger (bigger x y) z = bigger x (bigger y z) := by unfold bigger; repeat' split <;> omega
theorem jok_iff {a b : List Int} : jok a b = true ↔ chk a = true ∧ chk b = true ∧ alike a b ∧ chk (jl a b) = true := by simp [jok, and_assoc]
theorem chk_sides {s : List Int} (h : chk s = true) : ∀ x ∈ s, 1 ≤ x ∧ x ≤ 16 := (chk_iff.mp h).2.1
theorem chk_len {s : List Int} (h : chk s = true) : s.length ≤ 3 := (chk_iff.mp h).1
theorem jl_assoc (a b c : List Int) : jl (jl a b) c = jl a (jl b c) := by
  apply eq_of_sd
  · simp only [jl_length]; omega
  · intro i _; simp only [sd_jl, bigger_assoc]
theorem three {a b c : List Int} (h : jok a b = true) (k : jok b c = true) : jok (jl a b) c = jok a (jl b c) := by
  obtain ⟨h1, h2, h3, h4⟩ := jok_iff.mp h
  obtain ⟨k1, k2, k3, k4⟩ := jok_iff.mp k
  rw [Bool.eq_iff_iff, jok_iff, jok_iff, jl_assoc]
  constructor
  · rintro ⟨_, _, h5, h6⟩
    refine ⟨h1, k4, fun i _ => ?_, h6⟩
    have e1 := alike_all h3 i
    have e2 := alike_all k3 i
    have e3 := alike_all h5 i
    have p1 := sd_pos (chk_sides h1) i
    have p2 := sd_pos (chk_sides h2) i
    have p3 := sd_pos (chk_sides k2) i
    rw [sd_jl] at e3 ⊢
    unfold fit2 bigger at *
    split at e3 <;> split <;> omega
  · rintro ⟨_, _, h5, h6⟩
    refine ⟨h4, k2, fun i _ => ?_, h6⟩
    have e1 := alike_all h3 i
    have e2 := alike_all k3 i
    have e3 := alike_all h5 i
    have p1 := sd_pos (chk_sides h1) i
    have p2 := sd_pos (chk_sides h2) i
    have p3 := sd_pos (chk_sides k2) i
    rw [sd_jl] at e3 ⊢
    unfold fit2 bigger at *
    split at e3 <;> split <;> omega
end Go.Proofs.Ytjcgadfmhfhbgaa.Plain
