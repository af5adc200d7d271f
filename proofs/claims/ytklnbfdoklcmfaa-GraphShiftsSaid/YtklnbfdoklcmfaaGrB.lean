/- What the laws of layer 10 ask, in plain words: graphs with a node more, and without the last ones; no conditions. -/
import Derived.Test.YtklnbfdoklcmfaaGrA
namespace Go.Proofs.Ytklnbfdoklcmfaa.Plain
open Go.RowKit Go.Proofs.Ytklnbfdoklcmfaa.A Go.Proofs.YtklnbfdoklcmfaaW.PrintWords Go.Proofs.YtklnbfdoklcmfaaW.PrintLast Go.Proofs.YtklnbfdoklcmfaaW.PrintMore
set_option linter.unusedVariables false
set_option linter.unusedSimpArgs false
theorem app_ok {l : List S35} {n : S35} (hG : GOk l) (h : l.length ≤ 23) (hW : nodeW l.length n = true) (hk : gkey n = none) : GOk (l ++ [n]) := by
  refine ⟨by simp, by simp; omega, fun j m hm => ?_, fun a ha b hb x hx hy => ?_⟩
  · by_cases c : j < l.length
    · rw [List.getElem?_append_left c] at hm
      exact hG.node j m hm
    · rw [List.getElem?_append_right (by omega)] at hm
      by_cases c2 : j = l.length
      · subst c2
        simp at hm
        subst hm
        exact hW
      · rw [List.getElem?_eq_none (by simp; omega)] at hm
        cases hm
  · rcases List.mem_append.mp ha with ha | ha
    · rcases List.mem_append.mp hb with hb | hb
      · exact hG.like a ha b hb x hx hy
      · rw [List.mem_singleton] at hb
        rw [hb, hk] at hy
        cases hy
    · rw [List.mem_singleton] at ha
      rw [ha, hk] at hx
      cases hx
theorem take_ok {l : List S35} (hG : GOk l) (c : Nat) (h0 : 0 < c) : GOk (l.take c) := by
  have h1 := hG.pos
  have h2 := hG.le
  refine ⟨by rw [List.length_take]; omega, by rw [List.length_take]; omega, fun j n hn => ?_, fun a ha b hb => hG.like a (List.mem_of_mem_take ha) b (List.mem_of_mem_take hb)⟩
  rw [List.getElem?_take] at hn
  split at hn
  · exact hG.node j n hn
  · cases hn
theorem lvGo_congr {l l' : List S35} : ∀ (k : Nat) (S S' : List Int), (∀ j, j < k → rd_T35 l (j : Int) = rd_T35 l' (j : Int)) → (∀ x : Int, x < k → (x ∈ S ↔ x ∈ S')) → lvGo l k S = lvGo l' k S'
  | 0, S, S', _, _ => rfl
  | m + 1, S, S', hl, hS => by
    have h0 := hS (m : Int) (by omega)
    have h1 := hl m (by omega)
    unfold lvGo
    by_cases c : (m : Int) ∈ S
    · rw [if_pos c, if_pos (h0.mp c), h1, lvGo_congr m (S ++ (rd_T35 l' (m : Int)).f1) (S' ++ (rd_T35 l' (m : Int)).f1) (fun j hj => hl j (by omega)) (fun x hx => by rw [List.mem_append, List.mem_append, hS x (by omega)])]
    · rw [if_neg c, if_neg (fun h => c (h0.mpr h)), lvGo_congr m S S' (fun j hj => hl j (by omega)) (fun x hx => hS x (by omega))]
theorem rd_app {l r : List S35} {j : Nat} (h : j < l.length) : rd_T35 (l ++ r) (j : Int) = rd_T35 l (j : Int) := by
  rw [rdN h, rdN (show j < (l ++ r).length by simp; omega), List.getElem_append_left h]
theorem useG_none {node : Int} {l : List S35} {i : Int} (h : ∀ (j : Nat) n, l[j]? = some n → node ∉ n.f1) : useG node i l = [] := by
  rw [List.eq_nil_iff_forall_not_mem]
  intro x hx
  obtain ⟨j, n, h1, _, h3⟩ := useG_mem.mp hx
  exact h j n h1 h3
theorem useG_big {l : List S35} (hA : ArgsOk l) {node : Int} (h : (l.length : Int) - 1 ≤ node) {i : Int} : useG node i l = [] := by
  refine useG_none (fun j n hn hm => ?_)
  obtain ⟨hj, _⟩ := List.getElem?_eq_some_iff.mp hn
  have := hA j n hn node hm
  omega
/-! ### one node more, of the last one -/
theorem more_ok {l : List S35} (hG : GOk l) (h : l.length ≤ 23) : GOk (l ++ [(⟨20, [(l.length : Int) - 1], []⟩ : S35)]) := by
  have := hG.pos
  refine app_ok hG h (nodeW_iff.mpr ⟨(1, 0), show gkind 20 = some (1, 0) from by decide, rfl, rfl, fun a ha => ?_⟩) rfl
  rw [List.mem_singleton] at ha
  omega
theorem more_live {l : List S35} (hG : GOk l) : liveF (l ++ [(⟨20, [(l.length : Int) - 1], []⟩ : S35)]) = liveF l ++ [(l.length : Int)] := by
  have h0 := hG.pos
  have e1 : (l ++ [(⟨20, [(l.length : Int) - 1], []⟩ : S35)]).length = l.length + 1 := by simp
  unfold liveF
  rw [e1, show ((l.length + 1 : Nat) : Int) - 1 = (l.length : Int) by omega, lvGo, if_pos (by simp), List.reverse_cons]
  congr 2
  have e2 : rd_T35 (l ++ [(⟨20, [(l.length : Int) - 1], []⟩ : S35)]) (l.length : Int) = ⟨20, [(l.length : Int) - 1], []⟩ := by
    rw [rdN (by simp)]
    simp
  rw [e2]
  refine lvGo_congr l.length _ _ (fun j hj => rd_app hj) (fun x hx => ?_)
  simp only [List.mem_append, List.mem_singleton]
  constructor
  · rintro (h | h)
    · omega
    · exact h
  · exact .inr
theorem more_use1 {l : List S35} (hG : GOk l) : useG ((l.length : Int) - 1) 0 (l ++ [(⟨20, [(l.length : Int) - 1], []⟩ : S35)]) = [(l.length : Int)] := by
  rw [useG_app, useG_big hG.args (by omega)]
  simp [useG]
theorem more_use2 {l : List S35} (hG : GOk l) : useG (l.length : Int) 0 (l ++ [(⟨20, [(l.length : Int) - 1], []⟩ : S35)]) = [] := by
  rw [useG_app, useG_big hG.args (by omega)]
  have : ((l.length : Int) - 1 == (l.length : Int)) = false := beq_eq_false_iff_ne.mpr (by omega)
  simp [useG, this]
end Go.Proofs.Ytklnbfdoklcmfaa.Plain
