/- GraphCuts, loop by loop, in plain words; no conditions. -/
import Derived.Test.YtklnbfdoklcmfaaGrB
import Derived.Test.YtklnbfdoklcmfaaAx18
namespace Go.Proofs.Ytklnbfdoklcmfaa.Plain
open Go.RowKit Go.Proofs.Ytklnbfdoklcmfaa.A Go.Proofs.YtklnbfdoklcmfaaW.PrintWords Go.Proofs.YtklnbfdoklcmfaaW.PrintLast Go.Proofs.YtklnbfdoklcmfaaW.PrintMore
set_option linter.unusedVariables false
set_option linter.unusedSimpArgs false
theorem num_ok {l : List S35} (hG : GOk l) (h : l.length ≤ 23) (a : Int) : GOk (l ++ [(⟨3, [], [a]⟩ : S35)]) := by
  refine app_ok hG h (nodeW_iff.mpr ⟨(0, 1), show gkind 3 = some (0, 1) from by decide, rfl, ?_, fun a ha => by cases ha⟩) rfl
  unfold numsB
  rw [if_neg (by decide), if_neg (by decide)]
  rfl
theorem num_prm (l : List S35) (a : Int) : prmF (l ++ [(⟨3, [], [a]⟩ : S35)]) = prmF l := by
  unfold prmF nms
  rw [List.filterMap_append]
  have : List.filterMap nm [(⟨3, [], [a]⟩ : S35)] = [] := rfl
  rw [this, List.append_nil]
theorem num_use (l : List S35) (a node : Int) : useG node 0 (l ++ [(⟨3, [], [a]⟩ : S35)]) = useG node 0 l := by
  rw [useG_app]
  simp [useG]
theorem lvGo_none (l : List S35) : ∀ (m : Nat) (S : List Int), (∀ x ∈ S, (m : Int) ≤ x) → lvGo l m S = []
  | 0, _, _ => rfl
  | m + 1, S, h => by
    rw [lvGo, if_neg (fun hm => by have := h _ hm; omega)]
    exact lvGo_none l m S (fun x hx => by have := h x hx; omega)
theorem num_live (l : List S35) (a : Int) : liveF (l ++ [(⟨3, [], [a]⟩ : S35)]) = [(l.length : Int)] := by
  have e1 : (l ++ [(⟨3, [], [a]⟩ : S35)]).length = l.length + 1 := by simp
  unfold liveF
  rw [e1, show ((l.length + 1 : Nat) : Int) - 1 = (l.length : Int) by omega, lvGo, if_pos (by simp), List.reverse_cons]
  have e2 : rd_T35 (l ++ [(⟨3, [], [a]⟩ : S35)]) (l.length : Int) = ⟨3, [], [a]⟩ := by
    rw [rdN (by simp)]
    simp
  rw [e2, lvGo_none _ _ _ (fun x hx => by simp at hx; omega)]
  rfl
theorem take_use (l : List S35) (node : Int) (c : Nat) : (useG node 0 (l.take c)).length ≤ (useG node 0 l).length := by
  have := useG_app node (l.take c) (l.drop c) 0
  rw [List.take_append_drop] at this
  rw [this, List.length_append]
  omega
theorem take_prm (l : List S35) (c : Nat) {x : Int} (h : x ∈ prmF (l.take c)) : x ∈ prmF l := by
  rw [(prmF_spec _).2, nms_mem] at h
  obtain ⟨n, hn, h2⟩ := h
  rw [(prmF_spec _).2, nms_mem]
  exact ⟨n, List.mem_of_mem_take hn, h2⟩
theorem cuts_l0 (l : List S35) (hG : GOk l) (a1 a2 : Int) (ha : 0 ≤ a1 ∧ a1 ≤ 255) (c : Nat) (hc : 0 < c ∧ c ≤ l.length) (d : Nat) : ∀ (k j : Nat), (prmF (l.take c)).length - j = d → j ≤ (prmF (l.take c)).length → d + 2000 ≤ k →
    fullerlaw10_GraphCuts.l0 k l a1 a2 true (c : Int) (prmF (l.take c)) (prmF l) (j : Int) = some true := by
  have h24 := hG.le
  have hp1 := prmF_len (l.take c)
  have hp2 := prmF_len l
  have hlt : (l.take c).length = c := by rw [List.length_take]; omega
  have hGt := take_ok hG c hc.1
  induction d with
  | zero =>
    intro k j hd hj hk
    obtain ⟨k, rfl⟩ : ∃ q, k = q + 1 := ⟨k - 1, by omega⟩
    have hu := take_use l a2 c
    have hul := useG_len hG a2
    have ut : ∀ q, 2000 ≤ q + 1 → graph_Uses.f q (l.take c) a2 = some (useG a2 0 (l.take c)) := fun q hq => by rw [uses_f _ _ q (by omega), gchk_iff.mpr hGt, if_pos rfl]
    have ul : ∀ q, 2000 ≤ q + 1 → graph_Uses.f q l a2 = some (useG a2 0 l) := fun q hq => by rw [uses_f _ _ q (by omega), gchk_iff.mpr hG, if_pos rfl]
    have ck : ∀ m : List S35, graph_Check.f m = some (gchk m) := fun m => rfl
    obtain ⟨m, hm⟩ : ∃ m, m = l ++ [(⟨3, [], [a1]⟩ : S35)] := ⟨_, rfl⟩
    rw [fullerlaw10_GraphCuts.l0, if_neg (by omega)]
    simp only [Option.bind_some, List.nil_append, List.length_nil]
    rw [if_pos (by omega), if_pos (by omega), w64 (x := a1) (by omega) (by omega), ← hm, ck m, Option.bind_some]
    by_cases h : (l.length : Int) = 24
    · have hf : gchk m = false := by
        have : ¬ GOk m := fun hq => by have := hq.le; rw [hm] at this; simp at this; omega
        cases hg : gchk m with
        | false => rfl
        | true => exact absurd (gchk_iff.mp hg) this
      rw [if_pos h, if_pos trivial, if_pos (by omega), if_pos (by omega), Int.toNat_natCast, ck, gchk_iff.mpr hGt, Option.bind_some, if_pos rfl, hf, if_pos (by rw [decide_eq_false (by omega)]; rfl), ut k (by omega), ul k (by omega), Option.bind_some, Option.bind_some]
      simp only [Option.some.injEq, decide_eq_true_eq]
      omega
    · have hGm : GOk m := by rw [hm]; exact num_ok hG (by omega) a1
      have um : graph_Uses.f k m a2 = some (useG a2 0 m) := by rw [uses_f _ _ k (by omega), gchk_iff.mpr hGm, if_pos rfl]
      rw [if_neg h, params_f m k (by omega), gchk_iff.mpr hGm, if_pos rfl, Option.bind_some, hm, num_prm, ← hm, same_f _ _ (by omega) k (by omega), Option.bind_some, if_pos (by simp), um, ul k (by omega), Option.bind_some, Option.bind_some, hm, num_use, ← hm, same_f _ _ (by omega) k (by omega), Option.bind_some, if_pos (by simp),
        live_f, gchk_iff.mpr hGm, if_pos rfl, Option.bind_some, if_pos trivial, if_pos (by omega), if_pos (by omega), Int.toNat_natCast, ck, gchk_iff.mpr hGt, Option.bind_some, if_pos rfl, if_pos (by rw [decide_eq_true (by omega)]; rfl), hm, num_live, if_pos (by rfl), ut k (by omega), Option.bind_some, Option.bind_some]
      simp only [Option.some.injEq, decide_eq_true_eq]
      omega
  | succ d ih =>
    intro k j hd hj hk
    obtain ⟨k, rfl⟩ : ∃ q, k = q + 1 := ⟨k - 1, by omega⟩
    have hjl : j < (prmF (l.take c)).length := by omega
    have hin := take_prm l c (List.getElem_mem hjl)
    rw [fullerlaw10_GraphCuts.l0, if_pos (by omega), if_pos (by omega), rd_lt hjl, in_f _ _ (by omega) k (by omega), Option.bind_some, if_pos (decide_eq_true hin), w1n (x := j) (by omega)]
    exact ih k (j + 1) (by omega) (by omega) (by omega)
end Go.Proofs.Ytklnbfdoklcmfaa.Plain
