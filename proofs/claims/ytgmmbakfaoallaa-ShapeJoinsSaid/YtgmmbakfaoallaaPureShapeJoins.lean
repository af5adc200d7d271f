/- For all two lists ShapeJoins answers true; no conditions but the sizes that the statement names. -/
import Derived.Test.YtgmmbakfaoallaaAx18
import Derived.Test.YtgmmbakfaoallaaShapeC
import Derived.Test.YtgmmbakfaoallaaShapeAwake
namespace Go.Proofs.Ytgmmbakfaoallaa.Pure
open Go.RowKit Go.Proofs.Ytgmmbakfaoallaa.Plain Go.Proofs.Ytgmmbakfaoallaa.A Go.Proofs.YtgmmbakfaoallaaW.PrintWords Go.Proofs.YtgmmbakfaoallaaW.PrintLast Go.Proofs.YtgmmbakfaoallaaW.PrintMore
set_option linter.unusedVariables false
set_option linter.unusedSimpArgs false

theorem ShapeJoins : fullerlaw02_ShapeJoins.Pure := by
  intro a b _ _ _ _ _ _
  refine ⟨1000, ?_⟩
  unfold fullerlaw02_ShapeJoins.f
  rw [awake_f 1000 (by omega)]
  simp only [Option.bind_some]
  by_cases h1 : (a.length : Int) > 100
  · rw [if_pos h1]; simp [fullerlaw02_ShapeJoins.j0]
  · rw [if_neg h1]
    by_cases h2 : (b.length : Int) > 100
    · simp [fullerlaw02_ShapeJoins.j0, h2]
    · simp only [h2, decide_false]
      simp only [fullerlaw02_ShapeJoins.j0, Bool.false_eq_true, if_false]
      rw [join_f a b 999 (by omega), join_f b a 999 (by omega), join_f a a 999 (by omega), join_f [] a 999 (by omega), check_f a 999 (by omega)]
      simp only [Option.bind_some]
      have hself : join a a = if chk a = true then (a, 0) else ([], 20) := by unfold join; rw [jok_self, jl_self]
      have hnone : join [] a = if chk a = true then (a, 0) else ([], 20) := by
        unfold join; rw [jok_nil]
        by_cases h : chk a = true
        · rw [if_pos h, if_pos h, jl_nil (chk_sides h)]
        · rw [if_neg h, if_neg h]
      have hcomm : join b a = join a b := by unfold join; rw [jok_comm, jl_comm]
      have last : ∀ k, 130 ≤ k → fullerlaw02_ShapeJoins.j1 k a b true (join a b).1 (join a b).2 (join b a).1 (join b a).2 true = some true := by
        intro k hk
        obtain ⟨k, rfl⟩ : ∃ m, k = m + 1 := ⟨k - 1, by omega⟩
        simp only [fullerlaw02_ShapeJoins.j1, hcomm, if_true]
        have l2 := join_len a b
        by_cases hj : jok a b = true
        · have e : join a b = (jl a b, 0) := by unfold join; rw [if_pos hj]
          have l3 : (jl a b).length ≤ 3 := chk_len (jok_iff.mp hj).2.2.2
          rw [e]
          simp only [if_true]
          have hj2 : jok b a = true := by rw [jok_comm]; exact hj
          rw [same_f (jl a b) (jl a b) (by omega) k (by omega), fits_f a (jl a b) k (by omega), fits_f b (jl a b) k (by omega), check_f (jl a b) k (by omega)]
          simp only [Option.bind_some, decide_true, if_true]
          rw [fits_jl_left hj, jl_comm a b, fits_jl_left hj2, (jok_iff.mp hj2).2.2.2]
          simp
        · have e : join a b = ([], 20) := by unfold join; rw [if_neg hj]
          rw [e]
          have f1 : fits a b = false := by simp [fits, hj]
          have f2 : fits b a = false := by simp [fits, jok_comm b a, hj]
          rw [fits_f a b k (by omega), fits_f b a k (by omega), f1, f2]
          simp
      by_cases hc : chk a = true
      · rw [hself, hnone, if_pos hc, if_pos hc]
        have := chk_len hc
        simp only [if_true]
        rw [same_f a a (by omega) 999 (by omega)]
        simp only [Option.bind_some, decide_true, if_true]
        exact last 999 (by omega)
      · have hc' : chk a = false := by simpa using hc
        rw [hself, hnone, hc']
        simp only [Bool.false_eq_true, if_false, Option.bind_some, if_true, beq_self_eq_true]
        exact last 999 (by omega)

end Go.Proofs.Ytgmmbakfaoallaa.Pure
