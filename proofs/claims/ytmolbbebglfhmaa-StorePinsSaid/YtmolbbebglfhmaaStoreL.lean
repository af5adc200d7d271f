/- The loops of StoreCommits, and what StorePins asks of a row of stamps, in plain words; no conditions. -/
import Derived.Test.YtmolbbebglfhmaaStoreB
import Derived.Test.YtmolbbebglfhmaaStoreF
import Derived.Test.YtmolbbebglfhmaaAx14
namespace Go.Proofs.Ytmolbbebglfhmaa.Plain
open Go.RowKit Go.Proofs.Ytmolbbebglfhmaa.A Go.Proofs.YtmolbbebglfhmaaW.PrintWords Go.Proofs.YtmolbbebglfhmaaW.PrintLast Go.Proofs.YtmolbbebglfhmaaW.PrintMore
set_option linter.unusedVariables false
set_option linter.unusedSimpArgs false
theorem rise_snoc {P : List Int} {now : Int} (h : Rise P) (hp : ∀ p ∈ P, p ≤ now) : Rise (P ++ [now]) := by
  intro i j hij hj
  rw [List.length_append, List.length_singleton] at hj
  have hi : i < (P ++ [now]).length := by rw [List.length_append, List.length_singleton]; omega
  have hj' : j < (P ++ [now]).length := by rw [List.length_append, List.length_singleton]; omega
  rw [rd_at hi, rd_at hj']
  by_cases c : j < P.length
  · rw [List.getElem_append_left c, List.getElem_append_left (show i < P.length by omega), ← rd_at c, ← rd_at (show i < P.length by omega)]
    exact h i j hij c
  · have e : (P ++ [now])[j] = now := by rw [List.getElem_append_right (by omega)]; simp
    rw [e]
    by_cases c2 : i < P.length
    · rw [List.getElem_append_left c2]; exact hp _ (List.getElem_mem c2)
    · rw [List.getElem_append_right (by omega)]; simp
theorem SOk.pin {C : List (List S74)} {now : Int} {P : List Int} (h : SOk C now P) (h64 : ¬ P.length = 64) : SOk C now (P ++ [now]) := by
  have hp := h.pl
  refine ⟨h.c8, h.lo, h.hi, by rw [List.length_append, List.length_singleton]; omega, rise_snoc h.ps (fun p hp => (h.pp p hp).2), h.vs, h.no, fun p hp => ?_⟩
  rcases List.mem_append.mp hp with hp | hp
  · exact h.pp p hp
  · rw [List.mem_singleton] at hp
    subst hp
    exact ⟨h.lo, Int.le_refl _⟩
theorem del_last {P : List Int} {now : Int} (hp : ∀ p ∈ P, p ≤ now) {i : Nat} (hi : i < (P ++ [now]).length) (h : ∀ j : Nat, i ≤ j → j < (P ++ [now]).length → now ≤ rd (P ++ [now]) (j : Int)) : (P ++ [now]).take i ++ (P ++ [now]).drop (i + 1) = P := by
  have hl : (P ++ [now]).length = P.length + 1 := by simp
  have hnow : ∀ j : Nat, i ≤ j → ∀ hj : j < (P ++ [now]).length, (P ++ [now])[j] = now := by
    intro j hij hj
    have h1 := h j hij hj
    rw [rd_at hj] at h1
    by_cases c : j < P.length
    · have h2 := hp _ (List.getElem_mem c)
      rw [List.getElem_append_left c] at h1 ⊢
      omega
    · rw [List.getElem_append_right (by omega)]; simp
  refine List.ext_getElem (by rw [List.length_append, List.length_take, List.length_drop]; omega) (fun j h1 h2 => ?_)
  by_cases c : j < i
  · rw [List.getElem_append_left (by rw [List.length_take]; omega), List.getElem_take, List.getElem_append_left h2]
  · rw [List.getElem_append_right (by rw [List.length_take]; omega), List.getElem_drop]
    have e1 : ∀ (m : Nat) (hm : m < (P ++ [now]).length), i ≤ m → (P ++ [now])[m] = now := fun m hm him => hnow m him hm
    rw [e1 _ _ (by rw [List.length_take]; omega)]
    have := hnow j (by omega) (by omega)
    rw [List.getElem_append_left h2] at this
    exact this.symm
end Go.Proofs.Ytmolbbebglfhmaa.Plain
