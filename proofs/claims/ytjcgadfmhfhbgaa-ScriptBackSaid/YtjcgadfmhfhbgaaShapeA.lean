/- Plain facts on shapes: what may be a shape, how many numbers it has, where an index stands, what two are joined to; no conditions. -/
import Derived.RowKit
namespace Go.Proofs.Ytjcgadfmhfhbgaa.Plain
open Go.RowKit

theorem w64 {x : Int} (h : -9223372036854775808 ≤ x) (h' : x ≤ 9223372036854775807) : wrap64 x = x := by
  unfold wrap64
  omega
theorem mulb {a b A B : Int} (ha : 1 ≤ a) (hA : a ≤ A) (hb : 1 ≤ b) (hB : b ≤ B) : 1 ≤ a * b ∧ a * b ≤ A * B := by
  have h1 : 1 * 1 ≤ a * b := Int.mul_le_mul ha hb (by omega) (by omega)
  have h2 : a * b ≤ A * B := Int.mul_le_mul hA hB (by omega) (by omega)
  omega

theorem getD_lt {α : Type} {l : List α} {i : Nat} (d : α) (h : i < l.length) : l.getD i d = l[i] := by simp [List.getD_eq_getElem?_getD, h]

def prod : List Int → Int
  | [] => 1
  | a :: s => a * prod s
def sides (s : List Int) : Bool := s.all fun x => decide (1 ≤ x) && decide (x ≤ 16)
/-- May it be a shape? -/
def chk (s : List Int) : Bool := decide (s.length ≤ 3) && sides s && decide (prod s ≤ 64)
def siz (s : List Int) : Int := if chk s = true then prod s else 0

theorem prod_append (s t : List Int) : prod (s ++ t) = prod s * prod t := by
  induction s with
  | nil => simp [prod]
  | cons a s ih => simp [prod, ih, Int.mul_assoc]
theorem prod_reverse (s : List Int) : prod s.reverse = prod s := by
  induction s with
  | nil => rfl
  | cons a s ih => simp [prod_append, prod, ih, Int.mul_comm]
theorem sides_iff {s : List Int} : sides s = true ↔ ∀ x ∈ s, 1 ≤ x ∧ x ≤ 16 := by simp [sides]
theorem prod_pos {s : List Int} (h : ∀ x ∈ s, 1 ≤ x) : 1 ≤ prod s := by
  induction s with
  | nil => simp [prod]
  | cons a s ih =>
    have h1 := h a (by simp)
    have h2 := ih (fun x hx => h x (by simp [hx]))
    have := Int.mul_le_mul h1 h2 (by omega) (by omega)
    simp [prod]; omega
theorem chk_iff {s : List Int} : chk s = true ↔ s.length ≤ 3 ∧ (∀ x ∈ s, 1 ≤ x ∧ x ≤ 16) ∧ prod s ≤ 64 := by
  simp [chk, sides, and_assoc]
theorem siz_nonneg (s : List Int) : 0 ≤ siz s := by
  unfold siz
  split
  · rename_i h; have := prod_pos (fun x hx => ((chk_iff.mp h).2.1 x hx).1); omega
  · omega

/-! ### indices, the last side first -/
def idxr : List Int → Int → List Int
  | [], _ => []
  | c :: r, p => p % c :: idxr r (p / c)
def plr : List Int → List Int → Int
  | c :: r, i :: x => plr r x * c + i
  | _, _ => 0
def okr : List Int → List Int → Bool
  | [], [] => true
  | c :: r, i :: x => decide (0 ≤ i) && decide (i < c) && okr r x
  | _, _ => false
def idx (s : List Int) (p : Int) : List Int := (idxr s.reverse p).reverse
def plc (s x : List Int) : Int := plr s.reverse x.reverse
def oki (s x : List Int) : Bool := okr s.reverse x.reverse

theorem idxr_length (r : List Int) (p : Int) : (idxr r p).length = r.length := by
  induction r generalizing p with
  | nil => rfl
  | cons c r ih => simp [idxr, ih]
theorem idx_length (s : List Int) (p : Int) : (idx s p).length = s.length := by simp [idx, idxr_length]
theorem okr_length {r x : List Int} (h : okr r x = true) : x.length = r.length := by
  induction r generalizing x with
  | nil => cases x <;> simp_all [okr]
  | cons c r ih => cases x with
    | nil => simp [okr] at h
    | cons i x => simp [okr] at h; simp [ih h.2]
theorem oki_length {s x : List Int} (h : oki s x = true) : x.length = s.length := by
  have := okr_length h
  simpa using this

theorem plr_idxr {r : List Int} (hr : ∀ c ∈ r, 1 ≤ c) {p : Int} (h0 : 0 ≤ p) (h1 : p < prod r) : plr r (idxr r p) = p ∧ okr r (idxr r p) = true := by
  induction r generalizing p with
  | nil => simp [prod] at h1; simp [idxr, plr, okr]; omega
  | cons c r ih =>
    have hc := hr c (by simp)
    have hp := prod_pos (fun x hx => hr x (by simp [hx]) : ∀ x ∈ r, 1 ≤ x)
    have hq0 : 0 ≤ p / c := Int.ediv_nonneg h0 (by omega)
    have hq1 : p / c < prod r := by
      apply Int.ediv_lt_of_lt_mul (by omega)
      simp only [prod] at h1
      rw [Int.mul_comm] at h1; exact h1
    obtain ⟨e1, e2⟩ := ih (fun x hx => hr x (by simp [hx])) hq0 hq1
    have m0 := Int.emod_nonneg p (show c ≠ 0 by omega)
    have m1 := Int.emod_lt_of_pos p (show 0 < c by omega)
    refine ⟨?_, ?_⟩
    · simp only [idxr, plr, e1]; rw [Int.mul_comm]; exact Int.mul_ediv_add_emod p c
    · simp [idxr, okr, e2, m0, m1]
theorem idxr_plr {r x : List Int} (hr : ∀ c ∈ r, 1 ≤ c) (h : okr r x = true) : idxr r (plr r x) = x ∧ 0 ≤ plr r x ∧ plr r x < prod r := by
  induction r generalizing x with
  | nil => cases x <;> simp_all [okr, idxr, plr, prod]
  | cons c r ih => cases x with
    | nil => simp [okr] at h
    | cons i x =>
      simp [okr] at h
      obtain ⟨⟨h0, h1⟩, h2⟩ := h
      have hc := hr c (by simp)
      obtain ⟨e1, e2, e3⟩ := ih (fun x hx => hr x (by simp [hx])) h2
      have hd : (plr r x * c + i) / c = plr r x := by
        rw [Int.add_comm, Int.add_mul_ediv_right _ _ (by omega), Int.ediv_eq_zero_of_lt h0 h1]; omega
      have hm : (plr r x * c + i) % c = i := by
        rw [Int.add_comm, Int.add_mul_emod_self_right, Int.emod_eq_of_lt h0 h1]
      have h4 : 0 ≤ plr r x * c := Int.mul_nonneg e2 (by omega)
      have h5 : (plr r x + 1) * c ≤ prod r * c := Int.mul_le_mul_of_nonneg_right (by omega) (by omega)
      refine ⟨?_, ?_, ?_⟩
      · simp [idxr, plr, hd, hm, e1]
      · simp [plr]; omega
      · simp [plr, prod]; rw [Int.mul_comm c]; rw [Int.add_mul] at h5; omega

theorem plc_idx {s : List Int} (hs : ∀ c ∈ s, 1 ≤ c) {p : Int} (h0 : 0 ≤ p) (h1 : p < prod s) : plc s (idx s p) = p ∧ oki s (idx s p) = true := by
  have := plr_idxr (r := s.reverse) (by simpa using hs) h0 (by rw [prod_reverse]; exact h1)
  simpa [plc, idx, oki] using this
theorem idx_plc {s x : List Int} (hs : ∀ c ∈ s, 1 ≤ c) (h : oki s x = true) : idx s (plc s x) = x ∧ 0 ≤ plc s x ∧ plc s x < prod s := by
  have := idxr_plr (r := s.reverse) (x := x.reverse) (by simpa using hs) h
  rw [prod_reverse] at this
  obtain ⟨e1, e2, e3⟩ := this
  exact ⟨by simp [idx, plc, e1], e2, e3⟩
theorem idx_inj {s : List Int} (hs : ∀ c ∈ s, 1 ≤ c) {p q : Int} (h0 : 0 ≤ p) (h1 : p < prod s) (h2 : 0 ≤ q) (h3 : q < prod s) (h : idx s p = idx s q) : p = q := by
  rw [← (plc_idx hs h0 h1).1, h, (plc_idx hs h2 h3).1]

/-- Which of two indices is less, and whether they are unlike. -/
def lexr : List Int → List Int → Bool × Bool
  | i :: x, j :: y => ((lexr x y).1 || (!(lexr x y).2 && decide (i < j)), (lexr x y).2 || decide (i ≠ j))
  | _, _ => (false, false)
theorem lexr_tells {r x y : List Int} (hr : ∀ c ∈ r, 1 ≤ c) (hx : okr r x = true) (hy : okr r y = true) :
    lexr x y = (decide (plr r x < plr r y), decide (plr r x ≠ plr r y)) := by
  induction r generalizing x y with
  | nil => cases x <;> cases y <;> simp_all [okr, lexr, plr]
  | cons c r ih => cases x with
    | nil => simp [okr] at hx
    | cons i x => cases y with
      | nil => simp [okr] at hy
      | cons j y =>
        simp [okr] at hx hy
        have hc := hr c (by simp)
        have e := ih (fun x hx => hr x (by simp [hx])) hx.2 hy.2
        simp only [lexr, e, plr]
        rcases Int.lt_trichotomy (plr r x) (plr r y) with h | h | h
        · have h5 : (plr r x + 1) * c ≤ plr r y * c := Int.mul_le_mul_of_nonneg_right (by omega) (by omega)
          rw [Int.add_mul] at h5
          have a1 : plr r x * c + i < plr r y * c + j := by omega
          have a2 : plr r x * c + i ≠ plr r y * c + j := by omega
          have a3 : plr r x ≠ plr r y := by omega
          simp [h, a1, a2, a3]
        · simp [h]
        · have h5 : (plr r y + 1) * c ≤ plr r x * c := Int.mul_le_mul_of_nonneg_right (by omega) (by omega)
          rw [Int.add_mul] at h5
          have a1 : ¬ plr r x * c + i < plr r y * c + j := by omega
          have a2 : plr r x * c + i ≠ plr r y * c + j := by omega
          have a3 : plr r x ≠ plr r y := by omega
          have a4 : ¬ plr r x < plr r y := by omega
          simp [a1, a2, a3, a4]

/-! ### what two shapes are joined to -/
/-- The side that stands so far from the last one; 1 ahead of the first. -/
def sd (s : List Int) (i : Nat) : Int := if i < s.length then s.getD (s.length - 1 - i) 0 else 1
def fit2 (x y : Int) : Prop := x = y ∨ x = 1 ∨ y = 1
instance (x y : Int) : Decidable (fit2 x y) := by unfold fit2; infer_instance
def bigger (x y : Int) : Int := if x < y then y else x
def jl (a b : List Int) : List Int := (List.range (max a.length b.length)).map fun j => bigger (sd a (max a.length b.length - 1 - j)) (sd b (max a.length b.length - 1 - j))
def alike (a b : List Int) : Prop := ∀ i, i < max a.length b.length → fit2 (sd a i) (sd b i)
instance (a b : List Int) : Decidable (alike a b) := by unfold alike; infer_instance
def jok (a b : List Int) : Bool := chk a && chk b && decide (alike a b) && chk (jl a b)
def join (a b : List Int) : List Int × Int := if jok a b = true then (jl a b, 0) else ([], 20)
def fits (a b : List Int) : Bool := jok a b && decide (jl a b = b)

theorem jl_length (a b : List Int) : (jl a b).length = max a.length b.length := by simp [jl]
theorem sd_jl (a b : List Int) (i : Nat) : sd (jl a b) i = bigger (sd a i) (sd b i) := by
  unfold sd
  rw [jl_length]
  by_cases h : i < max a.length b.length
  · rw [if_pos h]
    have h1 : max a.length b.length - 1 - i < (jl a b).length := by rw [jl_length]; omega
    rw [getD_lt _ h1]
    have e : max a.length b.length - 1 - (max a.length b.length - 1 - i) = i := by omega
    simp [jl, e, sd]
  · rw [if_neg h, if_neg (by omega), if_neg (by omega)]; simp [bigger]
theorem eq_of_sd {a b : List Int} (h : a.length = b.length) (hs : ∀ i, i < a.length → sd a i = sd b i) : a = b := by
  apply List.ext_getElem h
  intro i h1 h2
  have := hs (a.length - 1 - i) (by omega)
  unfold sd at this
  rw [if_pos (by omega), if_pos (by omega)] at this
  have e1 : a.length - 1 - (a.length - 1 - i) = i := by omega
  have e2 : b.length - 1 - (a.length - 1 - i) = i := by omega
  rw [e1, e2, getD_lt _ h1, getD_lt _ h2] at this
  exact this
theorem sd_pos {s : List Int} (h : ∀ x ∈ s, 1 ≤ x ∧ x ≤ 16) (i : Nat) : 1 ≤ sd s i ∧ sd s i ≤ 16 := by
  unfold sd
  split
  · rename_i hi
    have : s.length - 1 - i < s.length := by omega
    rw [getD_lt _ this]
    exact h _ (List.getElem_mem this)
  · omega
theorem sd_out {s : List Int} {i : Nat} (h : s.length ≤ i) : sd s i = 1 := by unfold sd; rw [if_neg (by omega)]
theorem alike_all {a b : List Int} (h : alike a b) (i : Nat) : fit2 (sd a i) (sd b i) := by
  by_cases hi : i < max a.length b.length
  · exact h i hi
  · left; rw [sd_out (by omega), sd_out (by omega)]
theorem bigger_comm (x y : Int) : bigger x y = bigger y x := by unfold bigger; split <;> split <;> omega
theorem bigger_assoc (x y z : Int) : bigger (bigger x y) z = bigger x (bigger y z) := by unfold bigger; repeat' split <;> omega
theorem fit2_comm {x y : Int} (h : fit2 x y) : fit2 y x := by unfold fit2 at *; omega
theorem jl_comm (a b : List Int) : jl a b = jl b a := by
  apply eq_of_sd
  · rw [jl_length, jl_length, Nat.max_comm]
  · intro i _; rw [sd_jl, sd_jl, bigger_comm]
theorem alike_comm {a b : List Int} (h : alike a b) : alike b a := fun i hi => fit2_comm (h i (by omega))
theorem jok_iff {a b : List Int} : jok a b = true ↔ chk a = true ∧ chk b = true ∧ alike a b ∧ chk (jl a b) = true := by simp [jok, and_assoc]
theorem jok_comm (a b : List Int) : jok a b = jok b a := by
  rw [Bool.eq_iff_iff, jok_iff, jok_iff, jl_comm a b]
  constructor <;> rintro ⟨h1, h2, h3, h4⟩ <;> exact ⟨h2, h1, alike_comm h3, h4⟩
theorem chk_sides {s : List Int} (h : chk s = true) : ∀ x ∈ s, 1 ≤ x ∧ x ≤ 16 := (chk_iff.mp h).2.1
theorem chk_len {s : List Int} (h : chk s = true) : s.length ≤ 3 := (chk_iff.mp h).1
theorem jl_self {a : List Int} : jl a a = a := by
  apply eq_of_sd
  · rw [jl_length]; omega
  · intro i _; rw [sd_jl]; unfold bigger; split <;> omega
theorem jok_self (a : List Int) : jok a a = chk a := by
  rw [Bool.eq_iff_iff, jok_iff, jl_self]
  exact ⟨fun h => h.1, fun h => ⟨h, h, fun i _ => .inl rfl, h⟩⟩
theorem jl_nil {a : List Int} (h : ∀ x ∈ a, 1 ≤ x ∧ x ≤ 16) : jl [] a = a := by
  apply eq_of_sd
  · rw [jl_length]; simp
  · intro i _; rw [sd_jl, sd_out (by simp)]; have := sd_pos h i; unfold bigger; split <;> omega
theorem jok_nil (a : List Int) : jok [] a = chk a := by
  rw [Bool.eq_iff_iff, jok_iff]
  refine ⟨fun h => h.2.1, fun h => ⟨by decide, h, fun i _ => .inr (.inl (sd_out (by simp))), by rw [jl_nil (chk_sides h)]; exact h⟩⟩
theorem fits_iff {a b : List Int} : fits a b = true ↔ jok a b = true ∧ jl a b = b := by simp [fits]
/-- What fits, side by side. -/
theorem fits_sd {a b : List Int} : fits a b = true ↔ chk a = true ∧ chk b = true ∧ a.length ≤ b.length ∧ ∀ i, sd a i = sd b i ∨ sd a i = 1 := by
  rw [fits_iff, jok_iff]
  constructor
  · rintro ⟨⟨h1, h2, h3, h4⟩, h5⟩
    refine ⟨h1, h2, ?_, fun i => ?_⟩
    · have := jl_length a b; rw [h5] at this; omega
    · have e := sd_jl a b i
      rw [h5] at e
      have := alike_all h3 i
      have p1 := sd_pos (chk_sides h1) i
      have p2 := sd_pos (chk_sides h2) i
      unfold fit2 at this
      unfold bigger at e
      split at e <;> omega
  · rintro ⟨h1, h2, h3, h4⟩
    have e : jl a b = b := by
      apply eq_of_sd
      · rw [jl_length]; omega
      · intro i _
        rw [sd_jl]
        have p1 := sd_pos (chk_sides h1) i
        have p2 := sd_pos (chk_sides h2) i
        rcases h4 i with h | h <;> unfold bigger <;> split <;> omega
    refine ⟨⟨h1, h2, fun i _ => ?_, by rw [e]; exact h2⟩, e⟩
    rcases h4 i with h | h
    · exact .inl h
    · exact .inr (.inl h)
theorem fits_jl_left {a b : List Int} (h : jok a b = true) : fits a (jl a b) = true := by
  obtain ⟨h1, h2, h3, h4⟩ := jok_iff.mp h
  rw [fits_sd]
  refine ⟨h1, h4, by rw [jl_length]; omega, fun i => ?_⟩
  rw [sd_jl]
  have := alike_all h3 i
  have p1 := sd_pos (chk_sides h1) i
  have p2 := sd_pos (chk_sides h2) i
  unfold fit2 at this
  unfold bigger
  split <;> omega
theorem fits_self (a : List Int) : fits a a = chk a := by
  rw [Bool.eq_iff_iff, fits_sd]
  exact ⟨fun h => h.1, fun h => ⟨h, h, Nat.le_refl _, fun _ => .inl rfl⟩⟩
theorem fits_trans {a b c : List Int} (h : fits a b = true) (k : fits b c = true) : fits a c = true := by
  rw [fits_sd] at *
  refine ⟨h.1, k.2.1, by omega, fun i => ?_⟩
  have := h.2.2.2 i
  have := k.2.2.2 i
  omega
theorem fits_anti {a b : List Int} (h : fits a b = true) (k : fits b a = true) : a = b := by
  rw [fits_sd] at *
  apply eq_of_sd (by omega)
  intro i _
  have := h.2.2.2 i
  have := k.2.2.2 i
  have := sd_pos (chk_sides h.1) i
  omega
theorem jl_assoc (a b c : List Int) : jl (jl a b) c = jl a (jl b c) := by
  apply eq_of_sd
  · simp only [jl_length]; omega
  · intro i _; simp only [sd_jl, bigger_assoc]
theorem three {a b c : List Int} (h : jok a b = true) (k : jok b c = true) : jok (jl a b) c = jok a (jl b c) := by
  obtain ⟨h1, h2, h3, h4⟩ := jok_iff.mp h
  obtain ⟨k1, k2, k3, k4⟩ := jok_iff.mp k
  rw [Bool.eq_iff_iff, jok_iff, jok_iff, jl_assoc]
  constructor
  · rintro ⟨_, _, h5, h6⟩
    refine ⟨h1, k4, fun i _ => ?_, h6⟩
    have e1 := alike_all h3 i
    have e2 := alike_all k3 i
    have e3 := alike_all h5 i
    have p1 := sd_pos (chk_sides h1) i
    have p2 := sd_pos (chk_sides h2) i
    have p3 := sd_pos (chk_sides k2) i
    rw [sd_jl] at e3 ⊢
    unfold fit2 bigger at *
    split at e3 <;> split <;> omega
  · rintro ⟨_, _, h5, h6⟩
    refine ⟨h4, k2, fun i _ => ?_, h6⟩
    have e1 := alike_all h3 i
    have e2 := alike_all k3 i
    have e3 := alike_all h5 i
    have p1 := sd_pos (chk_sides h1) i
    have p2 := sd_pos (chk_sides h2) i
    have p3 := sd_pos (chk_sides k2) i
    rw [sd_jl] at e3 ⊢
    unfold fit2 bigger at *
    split at e3 <;> split <;> omega
end Go.Proofs.Ytjcgadfmhfhbgaa.Plain
