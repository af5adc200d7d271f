/- For all lists, sizes and cuts PackCuts answers true; no conditions but the sizes that the statement names. -/
import Derived.Test.YtmlbdfgodcddeaaAx13
import Derived.Test.YtmlbdfgodcddeaaPackA
import Derived.Test.YtmlbdfgodcddeaaPackAwake
namespace Go.Proofs.Ytmlbdfgodcddeaa.Pure
open Go.RowKit Go.Proofs.Ytmlbdfgodcddeaa.Plain Go.Proofs.Ytmlbdfgodcddeaa.A Go.Proofs.YtmlbdfgodcddeaaW.PrintWords Go.Proofs.YtmlbdfgodcddeaaW.PrintLast Go.Proofs.YtmlbdfgodcddeaaW.PrintMore
set_option linter.unusedVariables false
set_option linter.unusedSimpArgs false
theorem PackCuts : fullerlaw08_PackCuts.Pure := by
  intro l size cut _ _ hx _ hc
  refine ⟨2000, ?_⟩
  unfold fullerlaw08_PackCuts.f
  rw [awake_f 2000 (by omega)]
  simp only [Option.bind_some]
  by_cases h1 : (l.length : Int) > 300
  · rw [if_pos h1]
  · rw [if_neg h1]
    have hlist : pack_List.f ([] : List Int) l size = some (pkList [] l size) := by
      unfold pack_List.f
      rw [if_pos (by simp; omega)]
    rw [hlist]
    simp only [Option.bind_some]
    unfold pkList
    by_cases hok : pkListOk l size = true
    · rw [if_pos hok]
      have hok' := hok
      unfold pkListOk at hok'
      simp only [Bool.and_eq_true, decide_eq_true_eq] at hok'
      obtain ⟨⟨hs, hlen⟩, hall⟩ := hok'
      have hsp := ok_pos hs
      have hlen8 : size * (l.length : Int) ≤ 8 * 255 := Int.mul_le_mul hsp.2 (by omega) (by omega) (by omega)
      have hpos : 0 ≤ size * (l.length : Int) := Int.mul_nonneg (by omega) (by omega)
      simp only [if_true, List.nil_append]
      obtain ⟨b, hb⟩ : ∃ b, b = (l.length : Int) :: pkAll size l := ⟨_, rfl⟩
      have hbl : (b.length : Int) = 1 + size * (l.length : Int) := by
        rw [hb, List.length_cons, pkAll_length, Int.natCast_add, Int.natCast_mul, Int.toNat_of_nonneg (by omega)]
        omega
      rw [← hb]
      rw [if_neg (by omega)]
      have hwc : wrap64 cut = cut := by
        simp [Lit.wf, IntKind.min, IntKind.max, IntKind.signed, IntKind.bits] at hc
        exact w64 (by omega) (by omega)
      have hc0 : 0 ≤ cut := by
        simp [Lit.wf, IntKind.min, IntKind.max, IntKind.signed, IntKind.bits] at hc
        omega
      rw [hwc, Int.tmod_eq_emod_of_nonneg hc0]
      have hm0 := Int.emod_nonneg cut (show (b.length : Int) ≠ 0 by omega)
      have hm1 := Int.emod_lt_of_pos cut (show (0 : Int) < b.length by omega)
      generalize cut % (b.length : Int) = m at hm0 hm1
      rw [if_pos hm0, if_pos (by omega)]
      have hw1 : wrap64 (size * (l.length : Int)) = size * (l.length : Int) := w64 (by omega) (by omega)
      have hw2 : wrap64 (1 + size * (l.length : Int)) = 1 + size * (l.length : Int) := w64 (by omega) (by omega)
      rw [hw1, hw2]
      have hno : pack_TakeList.f (b.take m.toNat) size = some ([], [], 40) := by
        unfold pack_TakeList.f
        rw [if_pos (by rw [List.length_take]; omega)]
        by_cases hz : m = 0
        · subst hz
          have e : b.take (0 : Int).toNat = [] := rfl
          rw [e, if_pos ⟨by simp [tkl], by simp [tkl]⟩]
          simp [pkTakeList]
        · obtain ⟨j, hj⟩ : ∃ j : Nat, m = ((j + 1 : Nat) : Int) := ⟨m.toNat - 1, by omega⟩
          subst hj
          rw [Int.toNat_natCast]
          have e : b.take (j + 1) = (l.length : Int) :: (pkAll size l).take j := by rw [hb]; rfl
          have e1 : ((l.length : Int) :: (pkAll size l).take j).take 1 = [(l.length : Int)] := rfl
          have et : tkl 0 [(l.length : Int)] = (l.length : Int) := by
            rw [tkl_zero _ (by intro x hx; simp at hx; omega)]
            simp only [evb]
            exact (w64 (by omega) (by omega)).trans (by omega)
          have g1 : (0 : Int) ≤ (l.length : Int) := Int.natCast_nonneg _
          have g2 : (l.length : Int) ≤ 255 := by clear et hw1 hw2 hwc; omega
          rw [e, e1, et, if_pos ⟨g1, g2⟩]
          unfold pkTakeList
          rw [if_pos ⟨hs, by simp⟩, e1, et, Int.toNat_natCast]
          have e2 : ((l.length : Int) :: (pkAll size l).take j).drop 1 = (pkAll size l).take j := rfl
          rw [e2, tl_short size hsp.1 l.length _ (by clear et hw1 hw2 hwc; rw [List.length_take]; omega)]
      rw [hno]
      simp [hbl]
    · rw [if_neg hok]
      simp
end Go.Proofs.Ytmlbdfgodcddeaa.Pure
