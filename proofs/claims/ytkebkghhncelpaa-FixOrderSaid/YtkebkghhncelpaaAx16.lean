/- Lean functions that answer as the Go functions do, and the proofs that they do; no conditions. Written by this session's own driver: a scratch copy of the kit's print with the session's additions (wip/xprint). -/
import Derived.Test.YtkebkghhncelpaaAx0
namespace Go.Proofs.Ytkebkghhncelpaa.A
open Go.RowKit Go.Proofs.YtkebkghhncelpaaW.PrintWords Go.Proofs.YtkebkghhncelpaaW.PrintLast Go.Proofs.YtkebkghhncelpaaW.PrintMore
attribute [local go_sem] max2_int min2_int max_two min_two max_three min_three max_four min_four   -- for this text's walks alone
set_option linter.unusedVariables false
set_option linter.unusedSimpArgs false

/-! ### fullerref01_floor: function 39 -/
def fullerref01_floor.f (a0 : Int) : Option (Int × Int) := if (Int.tmod a0 4294967296) < 0 then (some (wrap64 ((wrap64 (Int.tdiv a0 4294967296)) - 1), wrap64 ((Int.tmod a0 4294967296) + 4294967296))) else (some (wrap64 (Int.tdiv a0 4294967296), Int.tmod a0 4294967296))
set_option maxHeartbeats 8000000 in
set_option maxRecDepth 100000 in
theorem fullerref01_floor.calls (a0 : Int) (r1 : Int) (r2 : Int) (w : World) (h : fullerref01_floor.f a0 = some (r1, r2)) :
    Calls Try.prog 39 #[.int .i64 a0] w fun e w' => e = .returned (.tuple #[.int .i64 r1, .int .i64 r2]) ∧ Drawn0 w w' := by
  have H : (if (Int.tmod a0 4294967296) < 0 then (some (wrap64 ((wrap64 (Int.tdiv a0 4294967296)) - 1), wrap64 ((Int.tmod a0 4294967296) + 4294967296))) else (some (wrap64 (Int.tdiv a0 4294967296), Int.tmod a0 4294967296))) = some (r1, r2) := h
  clear h
  by_cases c2 : (Int.tmod a0 4294967296) < 0
  · rw [if_pos c2] at H
    have c2b0 : decide ((Int.tmod a0 4294967296) < 0) = true := decide_eq_true c2
    clear c2
    simp only [Option.some.injEq, Prod.mk.injEq] at H
    obtain ⟨rfl, rfl⟩ := H
    go_enter Try.func39, Try.ntmps39
    go_wp2
    go_ret2
    exact ⟨by first | rfl | (simp; done) | (simp [*]; done), by repeat (first | exact Drawn0.refl _ | apply Drawn0.step)⟩
  · rw [if_neg c2] at H
    have c2b0 : decide ((Int.tmod a0 4294967296) < 0) = false := decide_eq_false c2
    clear c2
    simp only [Option.some.injEq, Prod.mk.injEq] at H
    obtain ⟨rfl, rfl⟩ := H
    go_enter Try.func39, Try.ntmps39
    go_wp2
    go_ret2
    exact ⟨by first | rfl | (simp; done) | (simp [*]; done), by repeat (first | exact Drawn0.refl _ | apply Drawn0.step)⟩

end Go.Proofs.Ytkebkghhncelpaa.A
