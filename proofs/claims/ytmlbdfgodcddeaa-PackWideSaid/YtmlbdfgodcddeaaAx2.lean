/- Lean functions that answer as the Go functions do, and the proofs that they do; no conditions. Written by this session's own driver: a scratch copy of the kit's print with the session's additions (wip/xprint). -/
import Derived.Test.YtmlbdfgodcddeaaAx0
import Derived.Test.YtmlbdfgodcddeaaAx1
namespace Go.Proofs.Ytmlbdfgodcddeaa.A
open Go.RowKit Go.Proofs.YtmlbdfgodcddeaaW.PrintWords Go.Proofs.YtmlbdfgodcddeaaW.PrintLast Go.Proofs.YtmlbdfgodcddeaaW.PrintMore
attribute [local go_sem] max2_int min2_int max_two min_two max_three min_three max_four min_four   -- for this text's walks alone
set_option linter.unusedVariables false
set_option linter.unusedSimpArgs false

/-! ### pack_bits: function 21 (given) -/
def okSize (n : Int) : Bool := n == 1 || n == 2 || n == 8
def pack_bits.f (a0 : Int) : Option Int := if okSize a0 = true then some (8 * a0) else none
theorem pack_bits.ok (a0 : Int) (h : okSize a0 = true) (w : World) : Calls Try.prog 21 #[.int .i64 a0] w fun e w' => e = .returned (.int .i64 (8 * a0)) ∧ w = w' := by
  have h3 : a0 = 1 ∨ a0 = 2 ∨ a0 = 8 := by simpa [okSize, or_assoc] using h
  rcases h3 with rfl | rfl | rfl
  all_goals
    go_enter Try.func21, Try.ntmps21
    go_wp2_with (go_at_call 23; (with_reducible refine (pack_must.ok _).mono ?_); rintro e w' ⟨rfl, rfl⟩)
    go_ret
    exact ⟨rfl, rfl⟩
theorem pack_bits.calls (a0 : Int) (r : Int) (w : World) (h : pack_bits.f a0 = some r) : Calls Try.prog 21 #[.int .i64 a0] w fun e w' => e = .returned (.int .i64 r) ∧ Drawn0 w w' := by
  unfold pack_bits.f at h
  by_cases hk : okSize a0 = true
  · rw [if_pos hk] at h
    obtain rfl := Option.some.inj h
    exact (pack_bits.ok a0 hk w).mono fun e w' ⟨he, hw⟩ => ⟨he, by rw [← hw]; exact Drawn0.refl _⟩
  · rw [if_neg hk] at h; cases h
theorem pack_bits.no (a0 : Int) (h : okSize a0 = false) (w : World) : Calls Try.prog 21 #[.int .i64 a0] w fun e w' => e = .panicked [wrongE] ∧ w = w' := by
  have h1 : (a0 == 1) = false := by simp [okSize] at h; simp [h]
  have h2 : (a0 == 2) = false := by simp [okSize] at h; simp [h]
  have h3 : (a0 == 8) = false := by simp [okSize] at h; simp [h]
  clear h
  go_enter Try.func21, Try.ntmps21
  go_wp2_with (go_at_call 23; (with_reducible refine (pack_must.no _).mono ?_); rintro e w' ⟨rfl, rfl⟩)
  exact ⟨rfl, rfl, rfl⟩


end Go.Proofs.Ytmlbdfgodcddeaa.A
