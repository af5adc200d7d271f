/- Lean functions that answer as the Go functions do, and the proofs that they do; no conditions. Written by this session's own driver: a scratch copy of the kit's print with the session's additions (wip/xprint). -/
import Derived.Test.YtmolbbebglfhmaaRows
import Derived.Test.YtmolbbebglfhmaaAx14
import Derived.Test.YtmolbbebglfhmaaAxOpen
import Derived.Test.YtmolbbebglfhmaaPureStoreCommits
import Derived.WalkKit
import Derived.ProofKit
import Derived.OpenShut
import Derived.ShutString
import Derived.ChangeOld
import Derived.Below
import Derived.SizedLaws
namespace Go.Proofs.Ytmolbbebglfhmaa.storeCommits
open Go.ChangeShapes Go.WideShapes Go.ChangeAt Go.RowKit
open Go.ChangeMaps (open_string shut_string)
theorem own : ownKnob Try.prog.godebug = none := by kernel_rfl
theorem laidOut : laidOutB Try.prog = true := by kernel_rfl
set_option maxRecDepth 100000 in
theorem lifted (os : Os) (started : os.Started) (H : Type) (enc : TypeId × Value → H) :
    ReturnsInHanded {} Try.checked os 3 .any (Rows.storeCommitsSpec.pre6 enc Try.prog Try.f3 Rows.storeCommitsRow.domain false) (Rows.storeCommitsSpec.post enc Try.prog Try.f3 false true false false) := by
  refine returnsInHanded_of_change_sized (C := Try.checked) own started (by kernel_rfl) Try.func3
    (ChangeSpec.witness6 (enc := enc) (C := Try.checked) false ⟨#[], #[.agg #[.slice none 0 0, .int .i64 0, .slice none 0 0], .int .i64 0, .slice none 0 0, .slice none 0 0], []⟩ 8 (by kernel_rfl) (by kernel_rfl) (by kernel_rfl) (by kernel_rfl)) ?_
  intro W base args ds gs before hval0 hW hcnd hsz0 _
  have hsz : (DataW.weightsEach Try.prog (Try.f3.params.toList ++ Rows.storeCommitsSpec.plain.varTypes Try.prog) (ds ++ gs)).all (· ≤ reachBytes) = true := hsz0
  have hval : ∀ (j : Nat) t v, Try.f3.params[j]? = some t → args[j]? = some v → Value.okWide Try.prog W .any base t v := hval0
  have hW' := hW
  obtain ⟨p, q, hA0, hV, rfl, hfz, hnd⟩ := hW
  have hA : DataW.TrodAll enc Try.prog W 0 (fun _ => true) true Try.f3.params.toList args.toList ds p := hA0
  rw [Try.params3] at hA hval hsz
  obtain ⟨v0, vs0, d0, ds0, p0, q0, hargs, rfl, rfl, h0, r0⟩ := trodAll_cons hA
  obtain ⟨v1, vs1, d1, ds1, p1, q1, rfl, rfl, rfl, h1, r1⟩ := trodAll_cons r0
  obtain ⟨v2, vs2, d2, ds2, p2, q2, rfl, rfl, rfl, h2, r2⟩ := trodAll_cons r1
  obtain ⟨v3, vs3, d3, ds3, p3, q3, rfl, rfl, rfl, h3, r3⟩ := trodAll_cons r2
  obtain ⟨rfl, rfl, rfl⟩ := trodAll_nil r3
  obtain rfl : args = #[v0, v1, v2, v3] := by cases args; simp_all
  obtain ⟨rfl, rfl⟩ := trodVars_none hV
  have k0 := h0
  have lt0 : ∀ x ∈ p0, x.block < W.heap.size := by obtain ⟨m, hm⟩ := k0; exact DataW.trod_lt m _ _ _ hm
  obtain ⟨x0, hK0, hG0⟩ := Opens.Opens.param (A.opens25) hsz (j := 0) rfl rfl h0
  obtain ⟨A0_0, c0_0, A0_2, c0_2, hv0, hc0_0, hr0_0, hc0_2, hr0_2⟩ := A.k25_open hK0
  obtain rfl := Opens.agg_of Try.underlying25 (hval 0 25 v0 rfl rfl) hv0
  obtain ⟨a1, rfl, rfl, rfl, w1⟩ := open_int Try.underlying3 (hval 1 3 v1 rfl rfl) h1
  have k2 := h2
  have lt2 : ∀ x ∈ p2, x.block < W.heap.size := by obtain ⟨m, hm⟩ := k2; exact DataW.trod_lt m _ _ _ hm
  obtain ⟨x2, hK2, hG2⟩ := Opens.Opens.param ((Opens.opens_slice Try.underlying23 (by kernel_rfl) (by kernel_rfl) (Opens.opens_int Try.underlying3))) hsz (j := 2) rfl rfl h2
  obtain ⟨A2, c2, hv2, hc2, hr2⟩ := hK2
  obtain rfl := Opens.one_of hv2 (okWide_slice Try.underlying23 (hval 2 23 v2 rfl rfl))
  have k3 := h3
  have lt3 : ∀ x ∈ p3, x.block < W.heap.size := by obtain ⟨m, hm⟩ := k3; exact DataW.trod_lt m _ _ _ hm
  obtain ⟨x3, hK3, hG3⟩ := Opens.Opens.param ((Opens.opens_slice Try.underlying26 (by kernel_rfl) (by kernel_rfl) A.opens42)) hsz (j := 3) rfl rfl h3
  obtain ⟨A3, c3, hv3, hc3, hr3⟩ := hK3
  obtain rfl := Opens.one_of hv3 (okWide_slice Try.underlying26 (hval 3 26 v3 rfl rfl))
  refine (A.fullerlaw18_StoreCommits.walk Pure.StoreCommits (fun _ => True) _ _ x0.f0 x0.f1 (fun _ => True) _ _ x0.f2 a1 _ _ x2 (fun _ => True) _ _ x3 W hr0_0 hc0_0 hr0_2 hc0_2 hr2 hc2 hr3 hc3 hG0.1 hG0.2.1 hG0.2.2 w1 hG2 hG3).mono fun e W' ⟨he, bel⟩ => ?_
  subst he
  exact ⟨_, rfl, _, _, _, [], _, [], hW', trodAll_mk1 (shut_bool Try.underlying4 _), (trodAll_cons_mk (Below.trod laidOut (by kernel_rfl) (of_decide_eq_true (by kernel_rfl)) k0 bel lt0) (trodAll_cons_mk (shut_int Try.underlying3 w1) (trodAll_cons_mk (Below.trod laidOut (by kernel_rfl) (of_decide_eq_true (by kernel_rfl)) k2 bel lt2) (trodAll_cons_mk (Below.trod laidOut (by kernel_rfl) (of_decide_eq_true (by kernel_rfl)) k3 bel lt3) trodAll_mk0)))), rfl, bel.frame _, fun h => by cases h⟩
theorem over : Rows.storeCommitsRow.holds Try.pinned (OpenSpec.ofChange Rows.storeCommitsSpec) :=
  OpenClaim.holds_of_wide 3 Try.f3 rfl rfl rfl rfl rfl rfl rfl ⟨rfl, rfl, rfl, rfl, rfl⟩ rfl rfl rfl rfl rfl (by kernel_rfl) Try.func3 (by kernel_rfl)
    (of_decide_eq_true (by kernel_rfl)) (by unfold Func.isWrapper; first | (rw [if_pos (by decide +kernel)]; kernel_rfl) | (rw [if_neg (by decide +kernel)]; exact ⟨rfl, rfl⟩))
    (fun os started H enc _ => lifted os started H enc)
theorem proved : Rows.StoreCommitsSaid := over
#print axioms proved
end Go.Proofs.Ytmolbbebglfhmaa.storeCommits
namespace Go.Proofs.Ytmolbbebglfhmaa
theorem storeCommits_holds : Rows.StoreCommitsSaid := storeCommits.proved
end Go.Proofs.Ytmolbbebglfhmaa
