/- For all lists and numbers ShapeWide answers true; no conditions but the sizes that the statement names. -/
import Derived.Test.YtgmmbakfaoallaaAx21
import Derived.Test.YtgmmbakfaoallaaShapeC
import Derived.Test.YtgmmbakfaoallaaShapeAwake
namespace Go.Proofs.Ytgmmbakfaoallaa.Pure
open Go.RowKit Go.Proofs.Ytgmmbakfaoallaa.Plain Go.Proofs.Ytgmmbakfaoallaa.A Go.Proofs.YtgmmbakfaoallaaW.PrintWords Go.Proofs.YtgmmbakfaoallaaW.PrintLast Go.Proofs.YtgmmbakfaoallaaW.PrintMore
set_option linter.unusedVariables false
set_option linter.unusedSimpArgs false

theorem chk_cons_one (s : List Int) : chk (1 :: s) = (chk s && decide (s.length < 3)) := by
  rw [Bool.eq_iff_iff, Bool.and_eq_true, chk_iff, chk_iff]
  simp [prod]
  constructor
  · rintro ⟨a, b, c⟩; exact ⟨⟨by omega, b, c⟩, by omega⟩
  · rintro ⟨⟨a, b, c⟩, d⟩; exact ⟨by omega, b, c⟩
theorem idxr_snoc_one {r : List Int} (hr : ∀ c ∈ r, 1 ≤ c) {p : Int} (h0 : 0 ≤ p) (h1 : p < prod r) : idxr (r ++ [1]) p = idxr r p ++ [0] := by
  induction r generalizing p with
  | nil => simp [prod] at h1; simp [idxr]
  | cons c r ih =>
    have hc := hr c (by simp)
    have hq0 : 0 ≤ p / c := Int.ediv_nonneg h0 (by omega)
    have hq1 : p / c < prod r := by
      apply Int.ediv_lt_of_lt_mul (by omega)
      simp only [prod] at h1
      rw [Int.mul_comm] at h1; exact h1
    simp [idxr, ih (fun x hx => hr x (by simp [hx])) hq0 hq1]
theorem idx_cons_one {s : List Int} (hs : ∀ c ∈ s, 1 ≤ c) {p : Int} (h0 : 0 ≤ p) (h1 : p < prod s) : idx (1 :: s) p = 0 :: idx s p := by
  unfold idx
  rw [List.reverse_cons, idxr_snoc_one (by simpa using hs) h0 (by rw [prod_reverse]; exact h1)]
  simp
theorem idx_last {s : List Int} {p : Int} (hl : 0 < s.length) (h0 : 0 ≤ p) (h1 : p < s[s.length - 1]'(by omega)) : (idx s p)[(idx s p).length - 1]'(by rw [idx_length]; omega) = p := by
  obtain ⟨r, c, rfl⟩ : ∃ r c, s = r ++ [c] := ⟨s.dropLast, s.getLast (by intro h; simp [h] at hl), (List.dropLast_concat_getLast _).symm⟩
  have h2 : p < c := by simpa using h1
  have e : idx (r ++ [c]) p = (idxr r.reverse (p / c)).reverse ++ [p % c] := by simp [idx, idxr]
  simp only [e]
  simp
  exact Int.emod_eq_of_lt h0 h2

theorem ShapeWide : fullerlaw02_ShapeWide.Pure := by
  intro s p hm _ _ _
  refine ⟨1000, ?_⟩
  unfold fullerlaw02_ShapeWide.f
  rw [awake_f 1000 (by omega)]
  simp only [Option.bind_some]
  by_cases h1 : (s.length : Int) > 100
  · rw [if_pos h1]; simp [fullerlaw02_ShapeWide.j0]
  · rw [if_neg h1]
    by_cases h2 : (s.length : Int) > 2
    · rw [if_pos h2]; simp [fullerlaw02_ShapeWide.j0]
    · rw [if_neg h2, check_f s 1000 (by omega)]
      simp only [Option.bind_some]
      by_cases hc : chk s = true
      · rw [hc]
        simp only [fullerlaw02_ShapeWide.j0, Bool.not_true, Bool.false_eq_true, if_false]
        rw [index_f s p 999 (by omega)]
        have hl := chk_len hc
        simp only [Option.bind_some, List.length_cons, List.length_nil]
        rw [if_pos (by omega), index_f _ p 999 (by omega)]
        have hs1 : chk (1 :: s) = true := by rw [chk_cons_one, hc]; simp; omega
        have hsz : siz ([1] ++ s) = siz s := by simp [siz, hc, hs1, prod]
        simp only [Option.bind_some]
        by_cases hp : 0 ≤ p ∧ p < siz s
        · have e1 : ix s p = (idx s p, 0) := by unfold ix; rw [if_pos hp]
          have e2 : ix ([1] ++ s) p = (0 :: idx s p, 0) := by
            unfold ix; rw [hsz, if_pos hp, List.cons_append, List.nil_append, idx_cons_one (fun x hx => (chk_sides hc x hx).1) hp.1 (by have := hp.2; simpa [siz, hc] using this)]
          have hil := idx_length s p
          simp only [e1, e2, if_true]
          have hsame := same_f (0 :: idx s p) (0 :: idx s p) (by simp; omega) 999 (by simp; omega)
          simp only [decide_true] at hsame
          have hfin : (if (List.length ([0] : List Int)) + (idx s p).length < 17592186044416 then (fullerref02_Same.f 999 ([0] ++ idx s p) (0 :: idx s p)).bind fun t408 => if t408 = true then some true else some false else none) = some true := by
            rw [if_pos (by simp; omega), List.cons_append, List.nil_append, hsame]; rfl
          by_cases h0 : (s.length : Int) = 0
          · rw [if_pos h0]; exact hfin
          · rw [if_neg h0]
            have hw : wrap64 ((s.length : Int) - 1) = ((s.length - 1 : Nat) : Int) := by rw [w64] <;> omega
            rw [hw, if_pos (by omega), if_pos (by omega), rd_lt (by omega)]
            clear hw
            by_cases h3 : p ≥ s[s.length - 1]'(by omega)
            · rw [if_pos h3]; exact hfin
            · have hw2 : wrap64 (((idx s p).length : Int) - 1) = (((idx s p).length - 1 : Nat) : Int) := by rw [w64] <;> omega
              rw [if_neg h3, if_pos (by omega), hw2, if_pos (by omega), if_pos (by omega)]
              clear hw2
              simp only [List.length_cons, List.length_nil, List.cons_append, List.nil_append]
              rw [if_pos (by omega), hsame]
              simp only [Option.bind_some, if_true]
              rw [rd_lt (by omega), idx_last (by omega) hp.1 (by omega)]
              simp
        · have e1 : ix s p = ([], 20) := by unfold ix; rw [if_neg hp]
          have e2 : ix ([1] ++ s) p = ([], 20) := by unfold ix; rw [hsz, if_neg hp]
          simp only [e1, e2]
          simp
      · have hc' : chk s = false := by simpa using hc
        rw [hc']
        simp [fullerlaw02_ShapeWide.j0]

end Go.Proofs.Ytgmmbakfaoallaa.Pure
