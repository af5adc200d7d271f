/- Lean functions that answer as the Go functions do, and the proofs that they do; no conditions. Written by this session's own driver: a scratch copy of the kit's print with the session's additions (wip/xprint). -/
import Derived.Test.YtjcgadfmhfhbgaaRows
import Derived.Test.YtjcgadfmhfhbgaaAx29
import Derived.Test.YtjcgadfmhfhbgaaAxOpen
import Derived.Test.YtjcgadfmhfhbgaaPureScriptSizes
import Derived.WalkKit
import Derived.ProofKit
import Derived.OpenShut
import Derived.ShutString
import Derived.ChangeOld
import Derived.Below
import Derived.SizedLaws
namespace Go.Proofs.Ytjcgadfmhfhbgaa.scriptSizes
open Go.ChangeShapes Go.WideShapes Go.ChangeAt Go.RowKit
open Go.ChangeMaps (open_string shut_string)
theorem own : ownKnob Try.prog.godebug = none := by kernel_rfl
theorem laidOut : laidOutB Try.prog = true := by kernel_rfl
set_option maxRecDepth 100000 in
theorem lifted (os : Os) (started : os.Started) (H : Type) (enc : TypeId × Value → H) :
    ReturnsInHanded {} Try.checked os 6 .any (Rows.scriptSizesSpec.pre6 enc Try.prog Try.f6 Rows.scriptSizesRow.domain false) (Rows.scriptSizesSpec.post enc Try.prog Try.f6 false true false false) := by
  refine returnsInHanded_of_change_sized (C := Try.checked) own started (by kernel_rfl) Try.func6
    (ChangeSpec.witness6 (enc := enc) (C := Try.checked) false ⟨#[], #[.agg #[.int .i64 0, .int .i64 0, .slice none 0 0, .slice none 0 0, .slice none 0 0, .int .i64 0, .int .i64 0, .int .i64 0, .int .i64 0, .int .i64 0, .int .i64 0]], []⟩ 8 (by kernel_rfl) (by kernel_rfl) (by kernel_rfl) (by kernel_rfl)) ?_
  intro W base args ds gs before hval0 hW hcnd hsz0 _
  have hsz : (DataW.weightsEach Try.prog (Try.f6.params.toList ++ Rows.scriptSizesSpec.plain.varTypes Try.prog) (ds ++ gs)).all (· ≤ reachBytes) = true := hsz0
  have hval : ∀ (j : Nat) t v, Try.f6.params[j]? = some t → args[j]? = some v → Value.okWide Try.prog W .any base t v := hval0
  have hW' := hW
  obtain ⟨p, q, hA0, hV, rfl, hfz, hnd⟩ := hW
  have hA : DataW.TrodAll enc Try.prog W 0 (fun _ => true) true Try.f6.params.toList args.toList ds p := hA0
  rw [Try.params6] at hA hval hsz
  obtain ⟨v0, vs0, d0, ds0, p0, q0, hargs, rfl, rfl, h0, r0⟩ := trodAll_cons hA
  obtain ⟨rfl, rfl, rfl⟩ := trodAll_nil r0
  obtain rfl : args = #[v0] := by cases args; simp_all
  obtain ⟨rfl, rfl⟩ := trodVars_none hV
  have k0 := h0
  have lt0 : ∀ x ∈ p0, x.block < W.heap.size := by obtain ⟨m, hm⟩ := k0; exact DataW.trod_lt m _ _ _ hm
  obtain ⟨x0, hK0, hG0⟩ := Opens.Opens.param (A.opens30) hsz (j := 0) rfl rfl h0
  obtain ⟨A0_2, c0_2, A0_3, c0_3, A0_4, c0_4, hv0, hc0_2, hr0_2, hc0_3, hr0_3, hc0_4, hr0_4⟩ := A.k30_open hK0
  obtain rfl := Opens.agg_of Try.underlying30 (hval 0 30 v0 rfl rfl) hv0
  refine (A.fullerlaw23_ScriptSizes.walk Pure.ScriptSizes x0.f0 x0.f1 (fun _ => True) _ _ x0.f2 (fun _ => True) _ _ x0.f3.f0 (fun _ => True) _ _ x0.f3.f1 x0.f4.f0 x0.f4.f1 x0.f4.f2 x0.f4.f3 x0.f5 x0.f6 W hr0_2 hc0_2 hr0_3 hc0_3 hr0_4 hc0_4 hG0.1 hG0.2.1 hG0.2.2.1 hG0.2.2.2.1.1 hG0.2.2.2.1.2 hG0.2.2.2.2.1.1 hG0.2.2.2.2.1.2.1 hG0.2.2.2.2.1.2.2.1 hG0.2.2.2.2.1.2.2.2 hG0.2.2.2.2.2.1 hG0.2.2.2.2.2.2).mono fun e W' ⟨he, bel⟩ => ?_
  subst he
  exact ⟨_, rfl, _, _, _, [], _, [], hW', trodAll_mk1 (shut_bool Try.underlying4 _), (trodAll_cons_mk (Below.trod laidOut (by kernel_rfl) (of_decide_eq_true (by kernel_rfl)) k0 bel lt0) trodAll_mk0), rfl, bel.frame _, fun h => by cases h⟩
theorem over : Rows.scriptSizesRow.holds Try.pinned (OpenSpec.ofChange Rows.scriptSizesSpec) :=
  OpenClaim.holds_of_wide 6 Try.f6 rfl rfl rfl rfl rfl rfl rfl ⟨rfl, rfl, rfl, rfl, rfl⟩ rfl rfl rfl rfl rfl (by kernel_rfl) Try.func6 (by kernel_rfl)
    (of_decide_eq_true (by kernel_rfl)) (by unfold Func.isWrapper; first | (rw [if_pos (by decide +kernel)]; kernel_rfl) | (rw [if_neg (by decide +kernel)]; exact ⟨rfl, rfl⟩))
    (fun os started H enc _ => lifted os started H enc)
theorem proved : Rows.ScriptSizesSaid := over
#print axioms proved
end Go.Proofs.Ytjcgadfmhfhbgaa.scriptSizes
namespace Go.Proofs.Ytjcgadfmhfhbgaa
theorem scriptSizes_holds : Rows.ScriptSizesSaid := scriptSizes.proved
end Go.Proofs.Ytjcgadfmhfhbgaa
