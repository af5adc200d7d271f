/- For all lists and numbers ShapePlaces answers true; no conditions but the sizes that the statement names. -/
import Derived.Test.YtgmmbakfaoallaaAx17
import Derived.Test.YtgmmbakfaoallaaShapeC
import Derived.Test.YtgmmbakfaoallaaShapeAwake
namespace Go.Proofs.Ytgmmbakfaoallaa.Pure
open Go.RowKit Go.Proofs.Ytgmmbakfaoallaa.Plain Go.Proofs.Ytgmmbakfaoallaa.A Go.Proofs.YtgmmbakfaoallaaW.PrintWords Go.Proofs.YtgmmbakfaoallaaW.PrintLast Go.Proofs.YtgmmbakfaoallaaW.PrintMore
set_option linter.unusedVariables false
set_option linter.unusedSimpArgs false

theorem beqd (x y : Int) : (x == y) = decide (x = y) := by rw [Bool.eq_iff_iff]; simp
theorem places_l0 (s x y : List Int) (a b : Int) (hx : x.length = s.length) (hy : y.length = s.length) (hl : s.length ≤ 3) (k : Nat) (hk : 10 ≤ k) :
    fullerlaw02_ShapePlaces.l0 k s a b true x y a 0 false false 0 = some ((lexr x.reverse y.reverse).1 == decide (a < b) && (lexr x.reverse y.reverse).2 == (a != b)) := by
  obtain ⟨k, rfl⟩ : ∃ m, k = m + 10 := ⟨k - 10, by omega⟩
  match s, x, y, hx, hy with
  | [], [], [], _, _ => 
    simp only [fullerlaw02_ShapePlaces.l0, List.length_nil, List.reverse_nil, lexr]
    by_cases h : (false == decide (a < b)) = true <;> simp [h] <;> simp at h <;> simp [h]
  | [c], [i], [j], _, _ =>
    simp [fullerlaw02_ShapePlaces.l0, lexr, rd0, w0]
    by_cases h1 : i < j <;> by_cases h2 : i = j <;> by_cases h3 : a < b <;> simp [h1, h2, h3, bne, beqd]
  | [c, d], [i, i2], [j, j2], _, _ =>
    by_cases h1 : i < j <;> by_cases h2 : i = j <;> by_cases h4 : i2 < j2 <;> by_cases h5 : i2 = j2 <;> by_cases h3 : a < b <;> (try omega) <;> simp [fullerlaw02_ShapePlaces.l0, lexr, rd0, rd1, w0, w1, h1, h2, h3, h4, h5, bne, beqd]
  | [c, d, e], [i, i2, i3], [j, j2, j3], _, _ =>
    by_cases h1 : i < j <;> by_cases h2 : i = j <;> by_cases h4 : i2 < j2 <;> by_cases h5 : i2 = j2 <;> by_cases h6 : i3 < j3 <;> by_cases h7 : i3 = j3 <;> by_cases h3 : a < b <;> (try omega) <;> simp [fullerlaw02_ShapePlaces.l0, lexr, rd0, rd1, rd2, w0, w1, w2, h1, h2, h3, h4, h5, h6, h7, bne, beqd]
  | _ :: _ :: _ :: _ :: _, _, _, _, _ => simp at hl

theorem ShapePlaces : fullerlaw02_ShapePlaces.Pure := by
  intro s a b hm _ _ _ _
  refine ⟨1000, ?_⟩
  unfold fullerlaw02_ShapePlaces.f
  rw [awake_f 1000 (by omega)]
  simp only [Option.bind_some]
  by_cases h1 : (s.length : Int) > 100
  · rw [if_pos h1]
  · rw [if_neg h1, index_f s a 1000 (by omega), index_f s b 1000 (by omega)]
    simp only [Option.bind_some]
    by_cases ha : 0 ≤ a ∧ a < siz s
    · have e1 : ix s a = (idx s a, 0) := by unfold ix; rw [if_pos ha]
      simp only [e1, if_true]
      by_cases hb : 0 ≤ b ∧ b < siz s
      · have e2 : ix s b = (idx s b, 0) := by unfold ix; rw [if_pos hb]
        simp only [e2]
        have hc := chk_of_lt ha.1 ha.2
        have hl := chk_len hc
        have hpos : ∀ x ∈ s, 1 ≤ x := fun x hx => (chk_sides hc x hx).1
        have hsz : siz s = prod s := by simp [siz, hc]
        rw [hsz] at ha hb
        obtain ⟨p1, p2⟩ := plc_idx hpos ha.1 ha.2
        obtain ⟨q1, q2⟩ := plc_idx hpos hb.1 hb.2
        have ea : pl s (idx s a) = (a, 0) := by simp [pl, hc, p1, p2]
        have hlex := lexr_tells (by simpa using hpos) p2 q2
        have hlex2 : lexr (idx s a).reverse (idx s b).reverse = (decide (a < b), decide (a ≠ b)) := by
          have := hlex; rw [show plr s.reverse (idx s a).reverse = a from p1, show plr s.reverse (idx s b).reverse = b from q1] at this; exact this
        simp only [fullerlaw02_ShapePlaces.j0, show ((0 : Int) != 0) = false from rfl, Bool.false_eq_true, if_false]
        rw [place_f s (idx s a) 999 (by omega), ea]
        simp only [Option.bind_some]
        have la := idx_length s a
        have lb := idx_length s b
        have hloop := places_l0 s (idx s a) (idx s b) a b la lb hl 999 (by omega)
        rw [hloop, hlex2]
        by_cases hab : a = b
        · subst hab; simp
        · simp [hab]
      · have e2 : ix s b = ([], 20) := by unfold ix; rw [if_neg hb]
        simp only [e2]
        simp only [fullerlaw02_ShapePlaces.j0, show ((20 : Int) != 0) = true from rfl, if_true]
        rw [if_neg (by omega), size_f s 999 (by omega)]
        simp only [Option.bind_some]
        rw [if_neg (by omega)]
        by_cases h0 : b < 0
        · rw [if_pos h0]
        · rw [if_neg h0]; simp; omega
    · have e1 : ix s a = ([], 20) := by unfold ix; rw [if_neg ha]
      simp only [e1, show ((20 : Int) = 0) = False from by simp, if_false]
      simp only [fullerlaw02_ShapePlaces.j0, if_true]
      by_cases h0 : a < 0
      · rw [if_pos h0]
      · rw [if_neg h0, size_f s 999 (by omega)]
        simp only [Option.bind_some]
        rw [if_pos (by omega)]

end Go.Proofs.Ytgmmbakfaoallaa.Pure
