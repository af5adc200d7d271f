/- Lean functions that answer as the Go functions do, and the proofs that they do; no conditions. Written by this session's own driver: a scratch copy of the kit's print with the session's additions (wip/xprint). -/
import Derived.Test.YtmlbdfgodcddeaaAx0
namespace Go.Proofs.Ytmlbdfgodcddeaa.A
open Go.RowKit Go.Proofs.YtmlbdfgodcddeaaW.PrintWords Go.Proofs.YtmlbdfgodcddeaaW.PrintLast Go.Proofs.YtmlbdfgodcddeaaW.PrintMore
attribute [local go_sem] max2_int min2_int max_two min_two max_three min_three max_four min_four   -- for this text's walks alone
set_option linter.unusedVariables false
set_option linter.unusedSimpArgs false

/-! ### pack_told: function 14 (given) -/
theorem wp_hid {P : Program} {c : Code} {Q : Exit → Act → World → Prop} {a : Act} {w : World} (h : ∀ Q', Aside0 (Q' = Q) → c.wp P Q' a w) : c.wp P Q a w := h Q ⟨rfl⟩
/-- What was raised where something must be so, in a frame that it goes through. -/
def wrongR : PanicEntry := { v := .iface 48 (.agg #[]), recovered := true }
theorem pack_told.idle (pe : Addr) (F : Value) (w : World) :
    CallsD Try.prog 14 #[.pointer (some pe), F] .returning w fun e u' w' => e = .returned (.tuple #[]) ∧ u' = .returning ∧ w = w' := by
  refine callsD_of_wpS Try.func14 rfl fun c₀ cs hu => ?_
  apply wpS_seq
  apply wpS_region
  simp [wpOpsS, go_sem, recoverD, hu, Try.ntmps14, Exit.thenS]
  have hf : #[Value.pointer (some pe), F] ++ (Array.replicate 15 undef).setIfInBounds 5 Value.nilIface = #[Value.pointer (some pe), F, undef, undef, undef, undef, undef, Value.nilIface, undef, undef, undef, undef, undef, undef, undef, undef, undef] := rfl
  rw [hf]
  refine wpS_of_wp (wp_hid fun Q' hQ' => ?_)
  have HU := Aside0.mk hu
  clear hu hf
  go_wp2
  rw [hQ'.out]
  refine ⟨rfl, .returning, ?_, .tuple #[], by simp [results, Try.results14, go_sem], rfl, rfl, rfl⟩
  rw [← HU.out]
theorem pack_told.wrong (pe : Addr) (g : FuncId) (caps : Array Value) (x : Value) (older : List PanicEntry) (w : World) (Q : World → Prop)
    (hcf : ∀ W : World, (callFunc g caps).run Try.prog W = .ok (.enter g caps) W) (hc : Calls Try.prog g caps (w.alloc (.cells #[] 48)) fun e w' => e = .returned (.tuple #[]) ∧ Q w' ∧ w'.cell? pe = some x ∧ w'.frozen? pe = false) :
    CallsD Try.prog 14 #[.pointer (some pe), .func (.func g) #[] caps] (.panicking ({ v := .iface 48 (.agg #[]), recovered := false } :: older)) w fun e u' w' =>
      e = .returned (.tuple #[]) ∧ u' = .panicking (wrongR :: older) ∧ ∃ w1, Q w1 ∧ w1.setCell pe (.int .i64 40) = w' := by
  refine callsD_of_wpS Try.func14 rfl fun c₀ cs hu => ?_
  apply wpS_seq
  apply wpS_region
  simp [wpOpsS, go_sem, recoverD, hu, Try.ntmps14, Exit.thenS]
  have hf : #[Value.pointer (some pe), Value.func (.func g) #[] caps] ++ (Array.replicate 15 undef).setIfInBounds 5 (.iface 48 (.agg #[])) = #[Value.pointer (some pe), Value.func (.func g) #[] caps, undef, undef, undef, undef, undef, .iface 48 (.agg #[]), undef, undef, undef, undef, undef, undef, undef, undef, undef] := rfl
  rw [hf]
  refine wpS_of_wp (wp_hid fun Q' hQ' => ?_)
  have HU := Aside0.mk hu
  have HC := Aside0.mk hc
  clear hu hf hc
  have hta : ∀ W : World, (Instr.typeAssert (.iface 48 (.agg #[])) 20 48 true).run Try.prog W = .ok (.tuple #[.agg #[], .bool true]) W := fun W => by rfl
  go_wp2_with ((with_reducible refine (HC.out).mono ?_); rintro e w1 ⟨rfl, hq, hcell, hfree⟩; have HQ := Aside0.mk hq; clear hq)
  rw [hQ'.out]
  refine ⟨rfl, _, rfl, .tuple #[], by simp [results, Try.results14, go_sem], rfl, rfl, _, HQ.out, rfl⟩


/-! ### pack_must: function 23 (given) -/
def pack_must.f (a0 : Bool) : Option Unit := if a0 = true then some () else none
theorem pack_must.ok (w : World) : Calls Try.prog 23 #[.bool true] w fun e w' => e = .returned (.tuple #[]) ∧ w = w' := by
  go_enter Try.func23, Try.ntmps23
  go_wp2
  go_end0
  exact ⟨rfl, rfl⟩
theorem pack_must.calls (a0 : Bool) (w : World) (h : pack_must.f a0 = some ()) : Calls Try.prog 23 #[.bool a0] w fun e w' => e = .returned (.tuple #[]) ∧ Drawn0 w w' := by
  cases a0 with
  | true => exact (pack_must.ok w).mono fun e w' ⟨he, hw⟩ => ⟨he, by rw [← hw]; exact Drawn0.refl _⟩
  | false => simp [pack_must.f] at h
/-- What is raised where something must be so and is not. -/
def wrongE : PanicEntry := { v := .iface 48 (.agg #[]), recovered := false }
theorem pack_must.no (w : World) : Calls Try.prog 23 #[.bool false] w fun e w' => e = .panicked [wrongE] ∧ w = w' := by
  go_enter Try.func23, Try.ntmps23
  go_wp2
  exact ⟨rfl, rfl, rfl⟩


end Go.Proofs.Ytmlbdfgodcddeaa.A
