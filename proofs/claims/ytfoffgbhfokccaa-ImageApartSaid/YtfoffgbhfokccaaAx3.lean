/- Lean functions that answer as the Go functions do, and the proofs that they do; no conditions. Written by this session's own driver: a scratch copy of the kit's print with the session's additions (wip/xprint). -/
import Derived.Test.YtfoffgbhfokccaaAx0
namespace Go.Proofs.Ytfoffgbhfokccaa.A
open Go.RowKit Go.Proofs.YtfoffgbhfokccaaW.PrintWords Go.Proofs.YtfoffgbhfokccaaW.PrintLast Go.Proofs.YtfoffgbhfokccaaW.PrintMore
attribute [local go_sem] max2_int min2_int max_two min_two max_three min_three max_four min_four   -- for this text's walks alone
set_option linter.unusedVariables false
set_option linter.unusedSimpArgs false

/-! ### pack_told: function 37 (given) -/
theorem wp_hid {P : Program} {c : Code} {Q : Exit → Act → World → Prop} {a : Act} {w : World} (h : ∀ Q', Aside0 (Q' = Q) → c.wp P Q' a w) : c.wp P Q a w := h Q ⟨rfl⟩
/-- What was raised where something must be so, in a frame that it goes through. -/
def wrongR : PanicEntry := { v := .iface 65 (.agg #[]), recovered := true }
theorem pack_told.idle (pe : Addr) (F : Value) (w : World) :
    CallsD Try.prog 37 #[.pointer (some pe), F] .returning w fun e u' w' => e = .returned (.tuple #[]) ∧ u' = .returning ∧ w = w' := by
  refine callsD_of_wpS Try.func37 rfl fun c₀ cs hu => ?_
  apply wpS_seq
  apply wpS_region
  simp [wpOpsS, go_sem, recoverD, hu, Try.ntmps37, Exit.thenS]
  have hf : #[Value.pointer (some pe), F] ++ (Array.replicate 15 undef).setIfInBounds 5 Value.nilIface = #[Value.pointer (some pe), F, undef, undef, undef, undef, undef, Value.nilIface, undef, undef, undef, undef, undef, undef, undef, undef, undef] := rfl
  rw [hf]
  refine wpS_of_wp (wp_hid fun Q' hQ' => ?_)
  have HU := Aside0.mk hu
  clear hu hf
  go_wp2
  rw [hQ'.out]
  refine ⟨rfl, .returning, ?_, .tuple #[], by simp [results, Try.results37, go_sem], rfl, rfl, rfl⟩
  rw [← HU.out]
theorem pack_told.wrong (pe : Addr) (g : FuncId) (caps : Array Value) (x : Value) (older : List PanicEntry) (w : World) (Q : World → Prop)
    (hcf : ∀ W : World, (callFunc g caps).run Try.prog W = .ok (.enter g caps) W) (hc : Calls Try.prog g caps (w.alloc (.cells #[] 65)) fun e w' => e = .returned (.tuple #[]) ∧ Q w' ∧ w'.cell? pe = some x ∧ w'.frozen? pe = false) :
    CallsD Try.prog 37 #[.pointer (some pe), .func (.func g) #[] caps] (.panicking ({ v := .iface 65 (.agg #[]), recovered := false } :: older)) w fun e u' w' =>
      e = .returned (.tuple #[]) ∧ u' = .panicking (wrongR :: older) ∧ ∃ w1, Q w1 ∧ w1.setCell pe (.int .i64 40) = w' := by
  refine callsD_of_wpS Try.func37 rfl fun c₀ cs hu => ?_
  apply wpS_seq
  apply wpS_region
  simp [wpOpsS, go_sem, recoverD, hu, Try.ntmps37, Exit.thenS]
  have hf : #[Value.pointer (some pe), Value.func (.func g) #[] caps] ++ (Array.replicate 15 undef).setIfInBounds 5 (.iface 65 (.agg #[])) = #[Value.pointer (some pe), Value.func (.func g) #[] caps, undef, undef, undef, undef, undef, .iface 65 (.agg #[]), undef, undef, undef, undef, undef, undef, undef, undef, undef] := rfl
  rw [hf]
  refine wpS_of_wp (wp_hid fun Q' hQ' => ?_)
  have HU := Aside0.mk hu
  have HC := Aside0.mk hc
  clear hu hf hc
  have hta : ∀ W : World, (Instr.typeAssert (.iface 65 (.agg #[])) 20 65 true).run Try.prog W = .ok (.tuple #[.agg #[], .bool true]) W := fun W => by rfl
  go_wp2_with ((with_reducible refine (HC.out).mono ?_); rintro e w1 ⟨rfl, hq, hcell, hfree⟩; have HQ := Aside0.mk hq; clear hq)
  rw [hQ'.out]
  refine ⟨rfl, _, rfl, .tuple #[], by simp [results, Try.results37, go_sem], rfl, rfl, _, HQ.out, rfl⟩


/-! ### pack_must: function 48 (given) -/
def pack_must.f (a0 : Bool) : Option Unit := if a0 = true then some () else none
theorem pack_must.ok (w : World) : Calls Try.prog 48 #[.bool true] w fun e w' => e = .returned (.tuple #[]) ∧ w = w' := by
  go_enter Try.func48, Try.ntmps48
  go_wp2
  go_end0
  exact ⟨rfl, rfl⟩
theorem pack_must.calls (a0 : Bool) (w : World) (h : pack_must.f a0 = some ()) : Calls Try.prog 48 #[.bool a0] w fun e w' => e = .returned (.tuple #[]) ∧ Drawn0 w w' := by
  cases a0 with
  | true => exact (pack_must.ok w).mono fun e w' ⟨he, hw⟩ => ⟨he, by rw [← hw]; exact Drawn0.refl _⟩
  | false => simp [pack_must.f] at h
/-- What is raised where something must be so and is not. -/
def wrongE : PanicEntry := { v := .iface 65 (.agg #[]), recovered := false }
theorem pack_must.no (w : World) : Calls Try.prog 48 #[.bool false] w fun e w' => e = .panicked [wrongE] ∧ w = w' := by
  go_enter Try.func48, Try.ntmps48
  go_wp2
  exact ⟨rfl, rfl, rfl⟩


/-! ### pack_bits: function 39 (given) -/
def okSize (n : Int) : Bool := n == 1 || n == 2 || n == 8
def pack_bits.f (a0 : Int) : Option Int := if okSize a0 = true then some (8 * a0) else none
theorem pack_bits.ok (a0 : Int) (h : okSize a0 = true) (w : World) : Calls Try.prog 39 #[.int .i64 a0] w fun e w' => e = .returned (.int .i64 (8 * a0)) ∧ w = w' := by
  have h3 : a0 = 1 ∨ a0 = 2 ∨ a0 = 8 := by simpa [okSize, or_assoc] using h
  rcases h3 with rfl | rfl | rfl
  all_goals
    go_enter Try.func39, Try.ntmps39
    go_wp2_with (go_at_call 48; (with_reducible refine (pack_must.ok _).mono ?_); rintro e w' ⟨rfl, rfl⟩)
    go_ret
    exact ⟨rfl, rfl⟩
theorem pack_bits.calls (a0 : Int) (r : Int) (w : World) (h : pack_bits.f a0 = some r) : Calls Try.prog 39 #[.int .i64 a0] w fun e w' => e = .returned (.int .i64 r) ∧ Drawn0 w w' := by
  unfold pack_bits.f at h
  by_cases hk : okSize a0 = true
  · rw [if_pos hk] at h
    obtain rfl := Option.some.inj h
    exact (pack_bits.ok a0 hk w).mono fun e w' ⟨he, hw⟩ => ⟨he, by rw [← hw]; exact Drawn0.refl _⟩
  · rw [if_neg hk] at h; cases h
theorem pack_bits.no (a0 : Int) (h : okSize a0 = false) (w : World) : Calls Try.prog 39 #[.int .i64 a0] w fun e w' => e = .panicked [wrongE] ∧ w = w' := by
  have h1 : (a0 == 1) = false := by simp [okSize] at h; simp [h]
  have h2 : (a0 == 2) = false := by simp [okSize] at h; simp [h]
  have h3 : (a0 == 8) = false := by simp [okSize] at h; simp [h]
  clear h
  go_enter Try.func39, Try.ntmps39
  go_wp2_with (go_at_call 48; (with_reducible refine (pack_must.no _).mono ?_); rintro e w' ⟨rfl, rfl⟩)
  exact ⟨rfl, rfl, rfl⟩


end Go.Proofs.Ytfoffgbhfokccaa.A
