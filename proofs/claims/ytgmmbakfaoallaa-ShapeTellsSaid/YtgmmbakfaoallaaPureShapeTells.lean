/- For all two lists and a number ShapeTells answers true; no conditions but the sizes that the statement names. -/
import Derived.Test.YtgmmbakfaoallaaAx16
import Derived.Test.YtgmmbakfaoallaaShapeD
import Derived.Test.YtgmmbakfaoallaaShapeAwake
namespace Go.Proofs.Ytgmmbakfaoallaa.Pure
open Go.RowKit Go.Proofs.Ytgmmbakfaoallaa.Plain Go.Proofs.Ytgmmbakfaoallaa.A Go.Proofs.YtgmmbakfaoallaaW.PrintWords Go.Proofs.YtgmmbakfaoallaaW.PrintLast Go.Proofs.YtgmmbakfaoallaaW.PrintMore
set_option linter.unusedVariables false
set_option linter.unusedSimpArgs false

theorem ShapeTells : fullerlaw02_ShapeTells.Pure := by
  intro a b p _ _ _ _ _ _ _
  refine ⟨1000, ?_⟩
  unfold fullerlaw02_ShapeTells.f
  rw [awake_f 1000 (by omega)]
  simp only [Option.bind_some]
  by_cases h1 : (a.length : Int) > 100
  · rw [if_pos h1]; simp [fullerlaw02_ShapeTells.j0]
  · rw [if_neg h1]
    by_cases h2 : (b.length : Int) > 100
    · simp [fullerlaw02_ShapeTells.j0, h2]
    · simp only [h2, decide_false]
      have l1 := ix_len a p
      have l2 := join_len a b
      simp only [fullerlaw02_ShapeTells.j0, Bool.false_eq_true, if_false]
      rw [place_f a b 999 (by omega), rplace_f a b 999 (by omega), index_f a p 999 (by omega), rindex_f a p 999 (by omega), join_f a b 999 (by omega), rjoin_f a b 999 (by omega)]
      simp only [Option.bind_some, if_true]
      rw [same_f (ix a p).1 (ix a p).1 (by omega) 999 (by omega)]
      simp only [Option.bind_some, decide_true, if_true]
      rw [same_f (join a b).1 (join a b).1 (by omega) 999 (by omega)]
      simp only [Option.bind_some, decide_true, if_true, beq_self_eq_true]
      simp only [fullerlaw02_ShapeTells.j1, if_true]
      rw [check_f a 998 (by omega), rcheck_f a 998 (by omega)]
      simp only [Option.bind_some, beq_self_eq_true, if_true]
      rw [size_f a 998 (by omega), rsize_f a 998 (by omega)]
      simp only [Option.bind_some, if_true]
      rw [fits_f a b 998 (by omega), rfits_f a b 998 (by omega)]
      simp only [Option.bind_some, beq_self_eq_true]

end Go.Proofs.Ytgmmbakfaoallaa.Pure
