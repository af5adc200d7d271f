/- For all three lists ShapeThree answers true; no conditions but the sizes that the statement names. -/
import Derived.Test.YtgmmbakfaoallaaAx19
import Derived.Test.YtgmmbakfaoallaaShapeC
import Derived.Test.YtgmmbakfaoallaaShapeAwake
namespace Go.Proofs.Ytgmmbakfaoallaa.Pure
open Go.RowKit Go.Proofs.Ytgmmbakfaoallaa.Plain Go.Proofs.Ytgmmbakfaoallaa.A Go.Proofs.YtgmmbakfaoallaaW.PrintWords Go.Proofs.YtgmmbakfaoallaaW.PrintLast Go.Proofs.YtgmmbakfaoallaaW.PrintMore
set_option linter.unusedVariables false
set_option linter.unusedSimpArgs false

theorem ShapeThree : fullerlaw02_ShapeThree.Pure := by
  intro a b c _ _ _ _ _ _ _ _ _
  refine ⟨1000, ?_⟩
  unfold fullerlaw02_ShapeThree.f
  rw [awake_f 1000 (by omega)]
  simp only [Option.bind_some]
  by_cases h1 : (a.length : Int) > 100
  · rw [if_pos h1]; simp [fullerlaw02_ShapeThree.j0]
  · rw [if_neg h1]
    by_cases h2 : (b.length : Int) > 100
    · rw [if_pos h2]; simp [fullerlaw02_ShapeThree.j0]
    · rw [if_neg h2]
      by_cases h3 : (c.length : Int) > 100
      · simp [fullerlaw02_ShapeThree.j0, h3]
      · simp only [h3, decide_false]
        simp only [fullerlaw02_ShapeThree.j0, Bool.false_eq_true, if_false]
        rw [join_f a b 999 (by omega), join_f b c 999 (by omega)]
        simp only [Option.bind_some]
        rw [join_f (join a b).1 c 999 (by omega)]
        simp only [Option.bind_some]
        rw [join_f a (join b c).1 999 (by omega)]
        simp only [Option.bind_some]
        by_cases hj : jok a b = true
        · have e : join a b = (jl a b, 0) := by unfold join; rw [if_pos hj]
          simp only [e, if_true]
          by_cases hk : jok b c = true
          · have e2 : join b c = (jl b c, 0) := by unfold join; rw [if_pos hk]
            have e3 := three hj hk
            simp only [e2, if_true]
            have e4 : join (jl a b) c = join a (jl b c) := by unfold join; rw [e3, jl_assoc]
            have l2 := join_len a (jl b c)
            rw [e4]
            by_cases h0 : (join a (jl b c)).2 = 0
            · rw [if_pos h0, if_pos h0, same_f _ _ (by omega) 999 (by omega)]; simp
            · rw [if_neg h0]; simp
          · have e2 : join b c = ([], 20) := by unfold join; rw [if_neg hk]
            simp only [e2]
            by_cases h0 : (join (jl a b) c).2 = 0 <;> simp [h0]
        · have e : join a b = ([], 20) := by unfold join; rw [if_neg hj]
          simp [e]

end Go.Proofs.Ytgmmbakfaoallaa.Pure
